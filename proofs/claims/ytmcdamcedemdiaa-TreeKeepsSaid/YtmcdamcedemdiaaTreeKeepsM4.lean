/- What the proof of TreeKeeps rests on, part 4: the engine, the walks, the plain laws. -/
import Derived.Test.YtmcdamcedemdiaaTreeKeepsM3
set_option linter.unusedVariables false
set_option linter.unusedSimpArgs false
namespace Go.Proofs.Ytmcdamcedemdiaa
open Go.RowKit Go.Eng
theorem insert_ct (l : List Nd) (p c : Hd) (ah : List Hd) (hb : ∀ n ∈ l, n.kids.length ≤ 17592186043904) : Ct Try.prog 56 [SV.agg 1 (stG l), SV.agg 2 (hdCell p), SV.agg 2 (hdCell c), hdRow ah] (sv2 (SV.agg 1 (stG (insSt l p c ah).1)) (iv (insSt l p c ah).2)) := by
 refine CtO 124 Try.func56 rfl rfl rfl fun E => row_lenA 0 (V (s := 0) rfl) rfl rfl fun hl0_0 => Rl (V (s := 3) rfl) fun hl3 => Sq <| Rt <| BxA 1 (V rfl) rfl rfl <| BxA 2 (V rfl) rfl rfl <| BxA 3 (V rfl) rfl rfl <| Al 4 zero24 rfl rfl <| U (As K) <| Nt <| Sq <| Sq <| Rq <| O (Mv (V rfl)) <| O (Ln (V rfl) ts80) <| O (Gt (V rfl) K) <| Nq <| Cd (V rfl) (fun hc1 => ?_) (fun hc1 => ?_)
 ·have hc1s := hc1; try simp only [BL] at hc1s
  exact Sq <| Rt <| U (Bu [] id (cmpG [SV.v (Value.slice none 0 0)]) zero24 build24 (by exact Z) (by decide) ⟨Z, rfl⟩) <| StA (V rfl) rfl (V rfl) Sz24 <| U (As K) <| Nt <| Rx <| RR2 rfl (rv_aggI (g' := stG ([])) (rv_cell (V rfl) rfl Ga24 Sz24) ⟨Z, In⟩) (rv_tmp (V rfl)) rfl rfl (by show sv2 (SV.agg 1 (stG ([]))) (iv (3)) = sv2 (SV.agg 1 (stG (insSt l p c ah).1)) (iv (insSt l p c ah).2); rw [ins_1 (by omega)])
 ·have hc1s := hc1; try simp only [BL] at hc1s
  refine Sk <| Sq <| Sq <| c_rd (fun e => ⟨[(18, cj (e 0) (SV.agg 1 (fun zi => (stG l) (0 + zi)))), (19, cj (e 1) (SV.agg 2 (fun zi => (hdCell p) (0 + zi)))), (20, cj (e 2) (SV.agg 2 (fun zi => (hdCell c) (0 + zi)))), (21, cj (e 3) (cjn (e 5) (SV.own 5))), (22, cj (e 4) (hdRow ah)), (23, cj (e 5) (SV.own 6)), (24, cj (e 6) (iv (firstSt l (([⟨p.pl, p.use⟩, ⟨c.pl, c.use⟩]) ++ ah)))), (10, cj (e 7) (iv (firstSt l (([⟨p.pl, p.use⟩, ⟨c.pl, c.use⟩]) ++ ah)))), (3, hdRow ah), (4, SV.bp 1 0), (5, SV.bp 2 0), (6, SV.bp 3 0), (8, SV.bp 4 0)], (cb (e 3) (cb (e 5) [(1, Own.box 1 (stG l) 24), (2, Own.box 2 (hdCell p) 26), (3, Own.box 2 (hdCell c) 26), (4, Own.box 1 (cmpG [SV.v (Value.slice none 0 0)]) 24), (6, ownOf hdCell 2 default (([⟨p.pl, p.use⟩, ⟨c.pl, c.use⟩]) ++ ah) 26)] [(1, Own.box 1 (stG l) 24), (2, Own.box 2 (hdCell p) 26), (3, Own.box 2 (hdCell c) 26), (4, Own.box 1 (cmpG [SV.v (Value.slice none 0 0)]) 24), (5, ownOf hdCell 2 default ([⟨p.pl, p.use⟩, ⟨c.pl, c.use⟩]) 26)]) (cb (e 5) [] [(1, Own.box 1 (stG l) 24), (2, Own.box 2 (hdCell p) 26), (3, Own.box 2 (hdCell c) 26), (4, Own.box 1 (cmpG [SV.v (Value.slice none 0 0)]) 24)]))⟩) ⟨[(18, SV.agg 1 (fun zi => (stG l) (0 + zi))), (19, SV.agg 2 (fun zi => (hdCell p) (0 + zi))), (20, SV.agg 2 (fun zi => (hdCell c) (0 + zi))), (22, hdRow ah), (23, SV.own 6), (24, iv (firstSt l (([⟨p.pl, p.use⟩, ⟨c.pl, c.use⟩]) ++ ah))), (10, iv (firstSt l (([⟨p.pl, p.use⟩, ⟨c.pl, c.use⟩]) ++ ah))), (3, hdRow ah), (4, SV.bp 1 0), (5, SV.bp 2 0), (6, SV.bp 3 0), (8, SV.bp 4 0)], [(1, Own.box 1 (stG l) 24), (2, Own.box 2 (hdCell p) 26), (3, Own.box 2 (hdCell c) 26), (4, Own.box 1 (cmpG [SV.v (Value.slice none 0 0)]) 24), (6, ownOf hdCell 2 default (([⟨p.pl, p.use⟩, ⟨c.pl, c.use⟩]) ++ ah) 26)]⟩ (by kernel_rfl) (by kernel_rfl) ?_ ⟨?_, ?_, ?_, ?_, ?_, ?_, ?_, ?_, Z⟩ ?_ ?_
  ·show Weak _ _ ⟨[(18, SV.junk), (19, SV.junk), (20, SV.junk), (21, SV.junk), (22, SV.junk), (23, SV.junk), (24, SV.junk), (10, SV.junk), (3, hdRow ah), (4, SV.bp 1 0), (5, SV.bp 2 0), (6, SV.bp 3 0), (8, SV.bp 4 0)], [(1, Own.box 1 (stG l) 24), (2, Own.box 2 (hdCell p) 26), (3, Own.box 2 (hdCell c) 26), (4, Own.box 1 (cmpG [SV.v (Value.slice none 0 0)]) 24)]⟩
   refine We ?_ ?_
   ·exact ⟨Vj, Vj, Vj, Vj, Vj, Vj, Vj, Vj, V rfl, V rfl, V rfl, V rfl, V rfl, Z⟩
   ·exact ⟨⟨_, rfl, ⟨rfl, rfl, (An rfl)⟩⟩, ⟨_, rfl, ⟨rfl, rfl, (An rfl)⟩⟩, ⟨_, rfl, ⟨rfl, rfl, (An rfl)⟩⟩, ⟨_, rfl, ⟨rfl, rfl, (An rfl)⟩⟩, Z⟩
  ·intro e hdn he hdp
   cases hu3 : e 3
   ·have h5 : e 5 = false := fls hu3 fun q => by obtain ⟨r3, -, -⟩ := (show e 3 = true ∧ e 4 = true ∧ True from hdn 5 q); exact r3
    simp only [setE, he, hu3, h5, cj_t, cj_f, cjn_t, cjn_f, cb_t, cb_f]
    refine U (LBA (V rfl) rfl Ga24 Sz24 (by decide)) <| Nt <| We ?_ ?_
    ·exact ⟨V rfl, V rfl, V rfl, Vj, V rfl, Vj, V rfl, V rfl, V rfl, V rfl, V rfl, V rfl, V rfl, Z⟩
    ·exact ⟨⟨_, rfl, ⟨rfl, rfl, (An rfl)⟩⟩, ⟨_, rfl, ⟨rfl, rfl, (An rfl)⟩⟩, ⟨_, rfl, ⟨rfl, rfl, (An rfl)⟩⟩, ⟨_, rfl, ⟨rfl, rfl, (An rfl)⟩⟩, Z⟩
   ·cases hu5 : e 5
    ·simp only [setE, he, hu3, hu5, cj_t, cj_f, cjn_t, cjn_f, cb_t, cb_f]
     refine U (LBA (V rfl) rfl Ga24 Sz24 (by decide)) <| Nt <| We ?_ ?_
     ·exact ⟨V rfl, V rfl, V rfl, V rfl, V rfl, Vj, V rfl, V rfl, V rfl, V rfl, V rfl, V rfl, V rfl, Z⟩
     ·exact ⟨⟨_, rfl, ⟨rfl, rfl, (An rfl)⟩⟩, ⟨_, rfl, ⟨rfl, rfl, (An rfl)⟩⟩, ⟨_, rfl, ⟨rfl, rfl, (An rfl)⟩⟩, ⟨_, rfl, ⟨rfl, rfl, (An rfl)⟩⟩, ⟨_, rfl, rfl⟩, Z⟩
    ·simp only [setE, he, hu3, hu5, cj_t, cj_f, cjn_t, cjn_f, cb_t, cb_f]
     refine U (LBA (V rfl) rfl Ga24 Sz24 (by decide)) <| Nt <| We ?_ ?_
     ·exact ⟨V rfl, V rfl, V rfl, Vj, V rfl, V rfl, V rfl, V rfl, V rfl, V rfl, V rfl, V rfl, V rfl, Z⟩
     ·exact ⟨⟨_, rfl, ⟨rfl, rfl, (An rfl)⟩⟩, ⟨_, rfl, ⟨rfl, rfl, (An rfl)⟩⟩, ⟨_, rfl, ⟨rfl, rfl, (An rfl)⟩⟩, ⟨_, rfl, ⟨rfl, rfl, (An rfl)⟩⟩, ⟨_, rfl, rfl⟩, Z⟩
  ·intro e hdn he hdp
   have h3 : e 3 = false := fls he fun q => by obtain ⟨r1, -, -⟩ := (show e 1 = true ∧ e 2 = true ∧ True from hdn 3 q); exact r1
   have h5 : e 5 = false := fls he fun q => by obtain ⟨r3, -, -⟩ := (show e 3 = true ∧ e 4 = true ∧ True from hdn 5 q); obtain ⟨r1, -, -⟩ := (show e 1 = true ∧ e 2 = true ∧ True from hdn 3 r3); exact r1
   simp only [setE, he, h3, h5, cj_t, cj_f, cjn_t, cjn_f, cb_t, cb_f]
   refine U (LBA (V rfl) rfl Ga26 Sz26 (by decide)) <| Nt <| We ?_ ?_
   ·exact ⟨V rfl, V rfl, V rfl, Vj, V rfl, Vj, V rfl, V rfl, V rfl, V rfl, V rfl, V rfl, V rfl, Z⟩
   ·exact ⟨⟨_, rfl, ⟨rfl, rfl, (An rfl)⟩⟩, ⟨_, rfl, ⟨rfl, rfl, (An rfl)⟩⟩, ⟨_, rfl, ⟨rfl, rfl, (An rfl)⟩⟩, ⟨_, rfl, ⟨rfl, rfl, (An rfl)⟩⟩, Z⟩
  ·intro e hdn he hdp
   have h3 : e 3 = false := fls he fun q => by obtain ⟨-, r2, -⟩ := (show e 1 = true ∧ e 2 = true ∧ True from hdn 3 q); exact r2
   have h5 : e 5 = false := fls he fun q => by obtain ⟨r3, -, -⟩ := (show e 3 = true ∧ e 4 = true ∧ True from hdn 5 q); obtain ⟨-, r2, -⟩ := (show e 1 = true ∧ e 2 = true ∧ True from hdn 3 r3); exact r2
   simp only [setE, he, h3, h5, cj_t, cj_f, cjn_t, cjn_f, cb_t, cb_f]
   refine U (LBA (V rfl) rfl Ga26 Sz26 (by decide)) <| Nt <| We ?_ ?_
   ·exact ⟨V rfl, V rfl, V rfl, Vj, V rfl, Vj, V rfl, V rfl, V rfl, V rfl, V rfl, V rfl, V rfl, Z⟩
   ·exact ⟨⟨_, rfl, ⟨rfl, rfl, (An rfl)⟩⟩, ⟨_, rfl, ⟨rfl, rfl, (An rfl)⟩⟩, ⟨_, rfl, ⟨rfl, rfl, (An rfl)⟩⟩, ⟨_, rfl, ⟨rfl, rfl, (An rfl)⟩⟩, Z⟩
  ·intro e hdn he hdp
   obtain ⟨h1, h2, -⟩ := (show e 1 = true ∧ e 2 = true ∧ True from hdp)
   have h5 : e 5 = false := fls he fun q => by obtain ⟨r3, -, -⟩ := (show e 3 = true ∧ e 4 = true ∧ True from hdn 5 q); exact r3
   simp only [setE, h1, h2, he, h5, cj_t, cj_f, cjn_t, cjn_f, cb_t, cb_f]
   refine t_bsO 5 (n := 2) (zget := cmpG [iv (0), iv (0)]) [(fun zi => (hdCell p) (0 + zi)), (fun zi => (hdCell c) (0 + zi))] (rowG hdCell default [⟨p.pl, p.use⟩, ⟨c.pl, c.use⟩]) Un80 Sz26 zero26 (by decide) (by decide) rfl (by decide) ⟨⟨rfl, .inl (V rfl), rfl⟩, ⟨rfl, .inl (V rfl), rfl⟩, Z⟩ ⟨⟨Z, ⟨⟨Z, rfl⟩, rfl⟩⟩, ⟨⟨Z, rfl⟩, rfl⟩⟩ (fresh_mk ⟨(noId_cj rfl), rfl, rfl, rfl, (noId_cj rfl), rfl, (noId_cj rfl), (noId_cj rfl), rfl, rfl, rfl, rfl, rfl, Z⟩ rfl rfl) <| Nt <| We ?_ ?_
   ·exact ⟨V rfl, V rfl, V rfl, V rfl, V rfl, Vj, V rfl, V rfl, V rfl, V rfl, V rfl, V rfl, V rfl, Z⟩
   ·exact ⟨⟨_, rfl, ⟨rfl, rfl, (An rfl)⟩⟩, ⟨_, rfl, ⟨rfl, rfl, (An rfl)⟩⟩, ⟨_, rfl, ⟨rfl, rfl, (An rfl)⟩⟩, ⟨_, rfl, ⟨rfl, rfl, (An rfl)⟩⟩, ⟨_, rfl, rfl⟩, Z⟩
  ·intro e hdn he hdp
   have h5 : e 5 = false := fls he fun q => by obtain ⟨-, r4, -⟩ := (show e 3 = true ∧ e 4 = true ∧ True from hdn 5 q); exact r4
   simp only [setE, he, h5, cj_t, cj_f, cjn_t, cjn_f, cb_t, cb_f]
   exact U (Mv (V rfl)) <| Nt <| weakS ⟨V rfl, V rfl, V rfl, V rfl, V rfl, Vj, V rfl, V rfl, V rfl, V rfl, V rfl, V rfl, V rfl, Z⟩
  ·intro e hdn he hdp
   obtain ⟨h3, h4, -⟩ := (show e 3 = true ∧ e 4 = true ∧ True from hdp)
   obtain ⟨h1, h2, -⟩ := (show e 1 = true ∧ e 2 = true ∧ True from hdn 3 h3)
   simp only [setE, h1, h2, h3, h4, he, cj_t, cj_f, cjn_t, cjn_f, cb_t, cb_f]
   refine Ap 6 (rowG hdCell default (([⟨p.pl, p.use⟩, ⟨c.pl, c.use⟩]) ++ ah)) eo80 (V rfl) rfl (V rfl) (fresh_mk ⟨(noId_cj rfl), rfl, rfl, rfl, rfl, rfl, (noId_cj rfl), (noId_cj rfl), rfl, rfl, rfl, rfl, rfl, Z⟩ rfl rfl) (len_app ([⟨p.pl, p.use⟩, ⟨c.pl, c.use⟩]) ah) (by first | (simp only [maxLen, List.length_append, List.length_set, List.length_nil, List.length_cons]; omega) | (simp only [maxLen]; omega)) (by first | (simp only [List.length_append, List.length_set, List.length_nil, List.length_cons]; omega) | (omega)) (app_typed (l := ([⟨p.pl, p.use⟩, ⟨c.pl, c.use⟩])) (m := ah)) <| Nt <| We ?_ ?_
   ·exact ⟨val_kc rfl (V rfl), V rfl, V rfl, Vj, V rfl, V rfl, val_kc rfl (V rfl), val_kc rfl (V rfl), V rfl, V rfl, V rfl, V rfl, V rfl, Z⟩
   ·exact ⟨⟨_, rfl, ⟨rfl, rfl, (An rfl)⟩⟩, ⟨_, rfl, ⟨rfl, rfl, (An rfl)⟩⟩, ⟨_, rfl, ⟨rfl, rfl, (An rfl)⟩⟩, ⟨_, rfl, ⟨rfl, rfl, (An rfl)⟩⟩, ⟨_, rfl, rfl⟩, Z⟩
  ·intro e hdn he hdp
   obtain ⟨h0, h5, -, -⟩ := (show e 0 = true ∧ e 5 = true ∧ e 5 = true ∧ True from hdp)
   obtain ⟨h3, h4, -⟩ := (show e 3 = true ∧ e 4 = true ∧ True from hdn 5 h5)
   obtain ⟨h1, h2, -⟩ := (show e 1 = true ∧ e 2 = true ∧ True from hdn 3 h3)
   simp only [setE, h0, h1, h2, h3, h4, h5, he, cj_t, cj_f, cjn_t, cjn_f, cb_t, cb_f]
   refine CTb en125 (by exact ⟨(vb_ro (Vi (g' := stG l) (V rfl) ⟨Z, Ir⟩) rfl), (vb_own (V rfl) rfl), Z⟩) (both_ct l (([⟨p.pl, p.use⟩, ⟨c.pl, c.use⟩]) ++ ah) (by first | assumption | exact kb_nil | exact kb_of (by assumption))) <| Nt <| We ?_ ?_
   ·exact ⟨V rfl, V rfl, V rfl, Vj, V rfl, V rfl, V rfl, V rfl, V rfl, V rfl, V rfl, V rfl, V rfl, Z⟩
   ·exact ⟨⟨_, rfl, ⟨rfl, rfl, (An rfl)⟩⟩, ⟨_, rfl, ⟨rfl, rfl, (An rfl)⟩⟩, ⟨_, rfl, ⟨rfl, rfl, (An rfl)⟩⟩, ⟨_, rfl, ⟨rfl, rfl, (An rfl)⟩⟩, ⟨_, rfl, rfl⟩, Z⟩
  ·intro e hdn he hdp
   obtain ⟨h6, -, h0, h1, h2, h3, h4, h5, -, -⟩ := (show e 6 = true ∧ e 6 = true ∧ e 0 = true ∧ e 1 = true ∧ e 2 = true ∧ e 3 = true ∧ e 4 = true ∧ e 5 = true ∧ e 6 = true ∧ True from hdp)
   simp only [setE, h0, h1, h2, h3, h4, h5, h6, he, cj_t, cj_f, cjn_t, cjn_f, cb_t, cb_f]
   refine U (As (V rfl)) <| Nt <| We ?_ ?_
   ·exact ⟨V rfl, V rfl, V rfl, Vj, V rfl, V rfl, V rfl, V rfl, V rfl, V rfl, V rfl, V rfl, V rfl, Z⟩
   ·exact ⟨⟨_, rfl, ⟨rfl, rfl, (An rfl)⟩⟩, ⟨_, rfl, ⟨rfl, rfl, (An rfl)⟩⟩, ⟨_, rfl, ⟨rfl, rfl, (An rfl)⟩⟩, ⟨_, rfl, ⟨rfl, rfl, (An rfl)⟩⟩, ⟨_, rfl, rfl⟩, Z⟩
  ·intro e he
   have h0 := he 0 (by decide)
   have h1 := he 1 (by decide)
   have h2 := he 2 (by decide)
   have h3 := he 3 (by decide)
   have h4 := he 4 (by decide)
   have h5 := he 5 (by decide)
   have h6 := he 6 (by decide)
   have h7 := he 7 (by decide)
   show Weak _ ⟨[(18, cj (e 0) (SV.agg 1 (fun zi => (stG l) (0 + zi)))), (19, cj (e 1) (SV.agg 2 (fun zi => (hdCell p) (0 + zi)))), (20, cj (e 2) (SV.agg 2 (fun zi => (hdCell c) (0 + zi)))), (21, cj (e 3) (cjn (e 5) (SV.own 5))), (22, cj (e 4) (hdRow ah)), (23, cj (e 5) (SV.own 6)), (24, cj (e 6) (iv (firstSt l (([⟨p.pl, p.use⟩, ⟨c.pl, c.use⟩]) ++ ah)))), (10, cj (e 7) (iv (firstSt l (([⟨p.pl, p.use⟩, ⟨c.pl, c.use⟩]) ++ ah)))), (3, hdRow ah), (4, SV.bp 1 0), (5, SV.bp 2 0), (6, SV.bp 3 0), (8, SV.bp 4 0)], (cb (e 3) (cb (e 5) [(1, Own.box 1 (stG l) 24), (2, Own.box 2 (hdCell p) 26), (3, Own.box 2 (hdCell c) 26), (4, Own.box 1 (cmpG [SV.v (Value.slice none 0 0)]) 24), (6, ownOf hdCell 2 default (([⟨p.pl, p.use⟩, ⟨c.pl, c.use⟩]) ++ ah) 26)] [(1, Own.box 1 (stG l) 24), (2, Own.box 2 (hdCell p) 26), (3, Own.box 2 (hdCell c) 26), (4, Own.box 1 (cmpG [SV.v (Value.slice none 0 0)]) 24), (5, ownOf hdCell 2 default ([⟨p.pl, p.use⟩, ⟨c.pl, c.use⟩]) 26)]) (cb (e 5) [] [(1, Own.box 1 (stG l) 24), (2, Own.box 2 (hdCell p) 26), (3, Own.box 2 (hdCell c) 26), (4, Own.box 1 (cmpG [SV.v (Value.slice none 0 0)]) 24)]))⟩ _
   simp only [h0, h1, h2, h3, h4, h5, h6, h7]
   show Weak _ ⟨[(18, SV.agg 1 (fun zi => (stG l) (0 + zi))), (19, SV.agg 2 (fun zi => (hdCell p) (0 + zi))), (20, SV.agg 2 (fun zi => (hdCell c) (0 + zi))), (21, SV.junk), (22, hdRow ah), (23, SV.own 6), (24, iv (firstSt l (([⟨p.pl, p.use⟩, ⟨c.pl, c.use⟩]) ++ ah))), (10, iv (firstSt l (([⟨p.pl, p.use⟩, ⟨c.pl, c.use⟩]) ++ ah))), (3, hdRow ah), (4, SV.bp 1 0), (5, SV.bp 2 0), (6, SV.bp 3 0), (8, SV.bp 4 0)], [(1, Own.box 1 (stG l) 24), (2, Own.box 2 (hdCell p) 26), (3, Own.box 2 (hdCell c) 26), (4, Own.box 1 (cmpG [SV.v (Value.slice none 0 0)]) 24), (6, ownOf hdCell 2 default (([⟨p.pl, p.use⟩, ⟨c.pl, c.use⟩]) ++ ah) 26)]⟩ _
   refine We ?_ ?_
   ·exact ⟨Va (V rfl) (An rfl), Va (V rfl) (An rfl), Va (V rfl) (An rfl), V rfl, V rfl, V rfl, V rfl, V rfl, V rfl, V rfl, V rfl, V rfl, Z⟩
   ·exact ⟨⟨_, rfl, ⟨rfl, rfl, (An rfl)⟩⟩, ⟨_, rfl, ⟨rfl, rfl, (An rfl)⟩⟩, ⟨_, rfl, ⟨rfl, rfl, (An rfl)⟩⟩, ⟨_, rfl, ⟨rfl, rfl, (An rfl)⟩⟩, ⟨_, rfl, rfl⟩, Z⟩
  refine Sq <| Rq <| O (Mv (V rfl)) <| O (Qn (V rfl) K) <| Nq <| Cd (V rfl) (fun hc2 => ?_) (fun hc2 => ?_)
  ·have hc2s := hc2; try simp only [BL] at hc2s
   exact Sq <| Rt <| U (Bu [] id (cmpG [SV.v (Value.slice none 0 0)]) zero24 build24 (by exact Z) (by decide) ⟨Z, rfl⟩) <| U (Mv (V rfl)) <| StA (V rfl) rfl (V rfl) Sz24 <| U (As (V rfl)) <| Nt <| Rx <| RR2 rfl (rv_aggI (g' := stG ([])) (rv_cell (V rfl) rfl Ga24 Sz24) ⟨Z, In⟩) (rv_tmp (V rfl)) rfl rfl (by show sv2 (SV.agg 1 (stG ([]))) (iv (firstSt l (([⟨p.pl, p.use⟩, ⟨c.pl, c.use⟩]) ++ ah))) = sv2 (SV.agg 1 (stG (insSt l p c ah).1)) (iv (insSt l p c ah).2); rw [ins_2 (by omega) hc2s])
  ·have hc2s := hc2; try simp only [BL] at hc2s
   have KK := insOk_of (p := p) (c := c) hc2s
   have Kp := KK.pr
   have Kc := KK.cr
   have Ka := KK.ar
   have h24 := checkSt_len KK.ok
   have hc0 := KK.ok
   have hkf : ∀ i, i < l.length → (l.getD i default).kids.length ≤ 24 := fun i hi => kids_few KK.ok hi
   refine Sk <| Sq <| Rqd (by kernel_rfl) (by kernel_rfl) <| O (FlB _ _ (V rfl) Un26 rfl 0 Sz3) <| O (LdB (V rfl) rfl Ga3 (by decide)) <| O (FlB _ _ (V rfl) Un26 rfl 0 Sz3) <| O (LdB (V rfl) rfl Ga3 (by decide)) <| O (As (V rfl)) <| O (As (V rfl)) <| Nq <| Sq <| Sq <| Rq <| O (FlB _ _ (V rfl) Un24 rfl 0 Sz22) <| O (LdB (V rfl) rfl Ga22 (by decide)) <| O (Mv (V rfl)) <| O (Ix (V rfl) (V rfl) ts22 te22 (by omega) (by first | omega | (simp only [List.length_set]; omega))) <| O (Fl _ _ (V rfl) Un61 rfl 0 Sz3) <| O (Ld (V rfl) Ga3 (by decide)) <| O (Ge (V rfl) K) <| O (Mv (V rfl)) <| Og (Gn rfl rfl) (fun hg => LBA (V rfl) rfl Ga24 Sz24 (by decide)) <| Og (Gn rfl rfl) (fun hg => Mv (V rfl)) <| Og (Gn rfl rfl) (fun hg => Mv (V rfl)) <| CQg (Gn rfl rfl) en126 (fun hg => (by exact ⟨⟨(Vi (g' := stG l) (Vg (V rfl) hg) ⟨Z, Ir⟩), rfl⟩, ⟨(Vg (V rfl) hg), rfl⟩, ⟨(Vg (V rfl) hg), rfl⟩, Z⟩)) (fun hg => under_ct l p.pl c.pl (by assumption) (by first | assumption | omega)) <| O (Qr (V rfl) (fun h => Vg (V rfl) (notT h))) <| Nq <| Cd (V rfl) (fun hc3 => ?_) (fun hc3 => ?_)
   ·have hc3s := hc3; try simp only [BL] at hc3s
    exact Sq <| Rt <| U (Bu [] id (cmpG [SV.v (Value.slice none 0 0)]) zero24 build24 (by exact Z) (by decide) ⟨Z, rfl⟩) <| StA (V rfl) rfl (V rfl) Sz24 <| U (As K) <| Nt <| Rx <| RR2 rfl (rv_aggI (g' := stG ([])) (rv_cell (V rfl) rfl Ga24 Sz24) ⟨Z, In⟩) (rv_tmp (V rfl)) rfl rfl (by show sv2 (SV.agg 1 (stG ([]))) (iv (6)) = sv2 (SV.agg 1 (stG (insSt l p c ah).1)) (iv (insSt l p c ah).2); rw [ins_3 (by omega) hc2s hc3])
   ·have hc3s := hc3; try simp only [BL] at hc3s
    have hq3 : insBad l p c = false := hc3
    have hbf := bad_f hq3
    refine Sk <| Sq <| Sq <| Rqd (by kernel_rfl) (by kernel_rfl) <| O (Mv (V rfl)) <| O (Ln (V rfl) ts80) <| O (Gt (V rfl) K) <| O (Mv (V rfl)) <| Og (Gy rfl rfl) (fun hg => FlB _ _ (V rfl) Un24 rfl 0 Sz22) <| Og (Gy rfl rfl) (fun hg => LdB (Vg (V rfl) hg) rfl Ga22 (by decide)) <| Og (Gy rfl rfl) (fun hg => Mv (V rfl)) <| Og (Gy rfl rfl) (fun hg => Ix (Vg (V rfl) hg) K ts80 te80 (by omega) (by have hq := hg; simp only [BL] at hq; omega)) <| Og (Gy rfl rfl) (fun hg => Fl _ _ (Vg (V rfl) hg) Un26 rfl 0 Sz3) <| Og (Gy rfl rfl) (fun hg => Ld (Vg (V rfl) hg) Ga3 (by decide)) <| Og (Gy rfl rfl) (fun hg => Ix (Vg (V rfl) hg) (Vg (V rfl) hg) ts22 te22 (by have hq := hg; simp only [BL] at hq; have hka : 0 ≤ (ah.getD (Int.toNat 0) default).pl ∧ (ah.getD (Int.toNat 0) default).pl < (l.length : Int) := Ka (by omega); omega) (by have hq := hg; simp only [BL] at hq; have hka : 0 ≤ (ah.getD (Int.toNat 0) default).pl ∧ (ah.getD (Int.toNat 0) default).pl < (l.length : Int) := Ka (by omega); omega)) <| Og (Gy rfl rfl) (fun hg => Fl _ _ (Vg (V rfl) hg) Un61 rfl 0 Sz3) <| Og (Gy rfl rfl) (fun hg => Ld (Vg (V rfl) hg) Ga3 (by decide)) <| Og (Gy rfl rfl) (fun hg => Mv (V rfl)) <| Og (Gy rfl rfl) (fun hg => Qn (Vg (V rfl) hg) (Vg (V rfl) hg)) <| O (Qa (V rfl) (fun h => Vg (V rfl) h)) <| Nq <| Cd (V rfl) (fun hc4 => ?_) (fun hc4 => ?_)
    ·have hc4s := hc4; try simp only [BL] at hc4s
     exact Sq <| Rt <| U (Bu [] id (cmpG [SV.v (Value.slice none 0 0)]) zero24 build24 (by exact Z) (by decide) ⟨Z, rfl⟩) <| StA (V rfl) rfl (V rfl) Sz24 <| U (As K) <| Nt <| Rx <| RR2 rfl (rv_aggI (g' := stG ([])) (rv_cell (V rfl) rfl Ga24 Sz24) ⟨Z, In⟩) (rv_tmp (V rfl)) rfl rfl (by show sv2 (SV.agg 1 (stG ([]))) (iv (6)) = sv2 (SV.agg 1 (stG (insSt l p c ah).1)) (iv (insSt l p c ah).2); rw [ins_4 (by omega) hc2s hq3 ⟨by omega, hc4s.2⟩])
    ·have hc4s := hc4; try simp only [BL] at hc4s
     have hq4 : ¬ (0 < ah.length ∧ (l.getD (hd0 ah).pl.toNat default).par ≠ p.pl) := fun q => by rw [show hd0 ah = ah.getD 0 default from rfl] at q; rcases hc4s with e | e; exact e (by omega); exact q.2 e
     refine Sk <| Sq <| Sq <| Rq <| O (Mv (V rfl)) <| O (Ln (V rfl) ts80) <| O (Gt (V rfl) K) <| O (Mv (V rfl)) <| Og (Gy rfl rfl) (fun hg => Mv (V rfl)) <| Og (Gy rfl rfl) (fun hg => Ix (Vg (V rfl) hg) K ts80 te80 (by omega) (by have hq := hg; simp only [BL] at hq; omega)) <| Og (Gy rfl rfl) (fun hg => Fl _ _ (Vg (V rfl) hg) Un26 rfl 0 Sz3) <| Og (Gy rfl rfl) (fun hg => Ld (Vg (V rfl) hg) Ga3 (by decide)) <| Og (Gy rfl rfl) (fun hg => Mv (V rfl)) <| Og (Gy rfl rfl) (fun hg => Ql (Vg (V rfl) hg) (Vg (V rfl) hg)) <| O (Qa (V rfl) (fun h => Vg (V rfl) h)) <| Nq <| Cd (V rfl) (fun hc5 => ?_) (fun hc5 => ?_)
     ·have hc5s := hc5; try simp only [BL] at hc5s
      exact Sq <| Rt <| U (LBA (V rfl) rfl Ga24 Sz24 (by decide)) <| CM (cargs := [SV.agg 1 (stG l)]) [] [(0, 7)] en115 (mv0 (by exact ⟨⟨(Vi (g' := stG l) (V rfl) ⟨Z, Ir⟩), rfl⟩, Z⟩)) (copyU_ct l (by omega) (by assumption)) (by exact Z) rfl rfl rfl rfl <| StA (V rfl) rfl (V rfl) Sz24 <| U (As K) <| Nt <| Tc (turn_uAT 7 rfl rfl (fun _ => rfl)) <| FzC 7 rfl <| Rx <| RR2 rfl (rv_aggI (g' := stG l) (rv_cell (V rfl) rfl Ga24 Sz24) ⟨Z, Ir⟩) (rv_tmp (V rfl)) rfl rfl (by show sv2 (SV.agg 1 (stG l)) (iv (0)) = sv2 (SV.agg 1 (stG (insSt l p c ah).1)) (iv (insSt l p c ah).2); rw [ins_5 (by omega) hc2s hq3 hq4 ⟨by omega, hc5s.2⟩])
     ·have hc5s := hc5; try simp only [BL] at hc5s
      have hq5 : ¬ (0 < ah.length ∧ (hd0 ah).pl = c.pl) := fun q => by rcases hc5s with e | e; exact e (by omega); exact e q.2
      have hol := out_len l c.pl
      have hko := kids_few (out_ok KK) (i := Int.toNat p.pl) (by omega)
      refine Sk <| Sq <| Rt <| U (LBA (V rfl) rfl Ga24 Sz24 (by decide)) <| CM (cargs := [SV.agg 1 (stG l)]) [] [(0, 8)] en115 (mv0 (by exact ⟨⟨(Vi (g' := stG l) (V rfl) ⟨Z, Ir⟩), rfl⟩, Z⟩)) (copyU_ct l (by omega) (by assumption)) (by exact Z) rfl rfl rfl rfl <| StA (V rfl) rfl (V rfl) Sz24 <| Nt <| Sq <| Rt <| U (Mv (V rfl)) <| CM (cargs := [SV.bp 1000 0, iv (c.pl)]) [(1000, 1), (1001, 8)] [(0, 9)] en127 (by exact ⟨(V rfl), (V rfl), Z⟩) (out_ct l c.pl (by assumption) (by assumption)) (by exact ⟨⟨_, rfl, ⟨rfl, rfl, (An rfl)⟩⟩, ⟨_, rfl, rfl⟩, Z⟩) rfl rfl rfl rfl <| Nt <| Sq <| Tc (turn_splitT 9 (Int.toNat p.pl) 10 rfl (by omega) rfl rfl) <| Rq <| O (FlB _ _ (V rfl) Un24 rfl 0 Sz22) <| O (LdB (V rfl) rfl Ga22 (by decide)) <| O (Mv (V rfl)) <| O (q_idxU (V rfl) rfl (V rfl) ts22 te22 (by omega) (by first | omega | (simp only [List.length_set]; omega))) <| O (FlO _ _ (V rfl) Un61 rfl 0 Sz33) <| O (LdU (V rfl) rfl Ga33 (by decide) uat_hole) <| O (LnO (V rfl) rfl ts33) <| O (As (V rfl)) <| Nq <| Sq <| Sq <| Rq <| O (Mv (V rfl)) <| O (Ln (V rfl) ts80) <| O (Gt (V rfl) K) <| Nq <| Cd (V rfl) (fun hc6 => ?_) (fun hc6 => ?_)
      ·have hc6s := hc6; try simp only [BL] at hc6s
       have hah : 0 < ah.length := by omega
       have hpos := pos_le KK hq4 hq5 hah
       have hposA : 0 ≤ idxI ((outSt l c.pl).getD (Int.toNat p.pl) default).kids (ah.getD 0 default).pl ∧ idxI ((outSt l c.pl).getD (Int.toNat p.pl) default).kids (ah.getD 0 default).pl < (((outSt l c.pl).getD (Int.toNat p.pl) default).kids.length : Int) := hpos
       have hpos : 0 ≤ idxI ((outSt l c.pl).getD (Int.toNat p.pl) default).kids (ah.getD (Int.toNat 0) default).pl ∧ idxI ((outSt l c.pl).getD (Int.toNat p.pl) default).kids (ah.getD (Int.toNat 0) default).pl < (((outSt l c.pl).getD (Int.toNat p.pl) default).kids.length : Int) := hpos
       refine Rqd (by kernel_rfl) (by kernel_rfl) <| O (FlB _ _ (V rfl) Un24 rfl 0 Sz22) <| O (LdB (V rfl) rfl Ga22 (by decide)) <| O (Mv (V rfl)) <| O (q_idxU (V rfl) rfl (V rfl) ts22 te22 (by omega) (by first | omega | (simp only [List.length_set]; omega))) <| O (FlO _ _ (V rfl) Un61 rfl 0 Sz33) <| O (LdU (V rfl) rfl Ga33 (by decide) uat_hole) <| O (Mv (V rfl)) <| O (Ix (V rfl) K ts80 te80 (by omega) (by first | omega | (simp only [List.length_set]; omega))) <| O (Fl _ _ (V rfl) Un26 rfl 0 Sz3) <| O (Ld (V rfl) Ga3 (by decide)) <| CQb en62 (by exact ⟨(vb_own (V rfl) rfl), (vb_ro (V rfl) rfl), Z⟩) (index_ct (Nd.kids ((outSt l c.pl).getD (Int.toNat p.pl) default)) ((ah.getD 0 default).pl)) <| O (As (V rfl)) <| Nq <| Sq <| c_rd (fun e => ⟨[(102, cj (e 0) (SV.bp 1 0)), (103, cj (e 1) (SV.own 9)), (104, cj (e 2) (iv (p.pl))), (105, cj (e 3) (SV.bp 1 0)), (106, cj (e 4) (SV.own 9)), (107, cj (e 5) (iv (p.pl))), (108, cj (e 6) (SV.oe 9 8 (Int.toNat p.pl) 0)), (109, cj (e 7) (SV.oe 9 8 (Int.toNat p.pl) 5)), (110, cj (e 8) (SV.own 10)), (111, cj (e 9) (iv (idxI (Nd.kids ((outSt l c.pl).getD (Int.toNat p.pl) default)) ((ah.getD 0 default).pl)))), (112, cj (e 10) (iv (c.pl))), (113, cj (e 11) (inRow ([c.pl]))), (114, cj (e 12) (SV.own 11)), (115, cj (e 13) (SV.oe 9 8 (Int.toNat p.pl) 0)), (116, cj (e 14) (SV.oe 9 8 (Int.toNat p.pl) 5)), (4, SV.bp 1 0), (8, SV.bp 4 0), (11, iv (p.pl)), (12, iv (c.pl)), (13, iv (idxI (Nd.kids ((outSt l c.pl).getD (Int.toNat p.pl) default)) ((ah.getD 0 default).pl)))], (cb (e 12) (cb (e 15) [(1, Own.box 1 (fun zt => SV.renm (rn [(1000, 1), (1001, 8), (0, 9)]) ((cmpG [SV.own 0]) zt)) 24), (4, Own.box 1 (cmpG [SV.v (Value.slice none 0 0)]) 24), (9, urowOf ndCell 8 default (outSt l c.pl) 61 5 Nd.kids inCell 1 0 3 l.length (some (Int.toNat p.pl, SV.own 11))), (11, ownOf inCell 1 0 ((Nd.kids ((outSt l c.pl).getD (Int.toNat p.pl) default)).take (Int.toNat (idxI (Nd.kids ((outSt l c.pl).getD (Int.toNat p.pl) default)) ((ah.getD 0 default).pl))) ++ ([c.pl]) ++ (Nd.kids ((outSt l c.pl).getD (Int.toNat p.pl) default)).drop (Int.toNat (idxI (Nd.kids ((outSt l c.pl).getD (Int.toNat p.pl) default)) ((ah.getD 0 default).pl)))) 3)] [(1, Own.box 1 (fun zt => SV.renm (rn [(1000, 1), (1001, 8), (0, 9)]) ((cmpG [SV.own 0]) zt)) 24), (4, Own.box 1 (cmpG [SV.v (Value.slice none 0 0)]) 24), (9, urowOf ndCell 8 default (outSt l c.pl) 61 5 Nd.kids inCell 1 0 3 l.length (some (Int.toNat p.pl, SV.own 10))), (11, ownOf inCell 1 0 ((Nd.kids ((outSt l c.pl).getD (Int.toNat p.pl) default)).take (Int.toNat (idxI (Nd.kids ((outSt l c.pl).getD (Int.toNat p.pl) default)) ((ah.getD 0 default).pl))) ++ ([c.pl]) ++ (Nd.kids ((outSt l c.pl).getD (Int.toNat p.pl) default)).drop (Int.toNat (idxI (Nd.kids ((outSt l c.pl).getD (Int.toNat p.pl) default)) ((ah.getD 0 default).pl)))) 3)]) (cb (e 15) [] [(1, Own.box 1 (fun zt => SV.renm (rn [(1000, 1), (1001, 8), (0, 9)]) ((cmpG [SV.own 0]) zt)) 24), (4, Own.box 1 (cmpG [SV.v (Value.slice none 0 0)]) 24), (9, urowOf ndCell 8 default (outSt l c.pl) 61 5 Nd.kids inCell 1 0 3 l.length (some (Int.toNat p.pl, SV.own 10))), (10, ownOf inCell 1 0 (Nd.kids ((outSt l c.pl).getD (Int.toNat p.pl) default)) 3)]))⟩) ⟨[(102, SV.bp 1 0), (103, SV.own 9), (104, iv (p.pl)), (105, SV.bp 1 0), (106, SV.own 9), (107, iv (p.pl)), (108, SV.oe 9 8 (Int.toNat p.pl) 0), (109, SV.oe 9 8 (Int.toNat p.pl) 5), (110, SV.own 10), (111, iv (idxI (Nd.kids ((outSt l c.pl).getD (Int.toNat p.pl) default)) ((ah.getD 0 default).pl))), (112, iv (c.pl)), (113, inRow ([c.pl])), (114, SV.own 11), (115, SV.oe 9 8 (Int.toNat p.pl) 0), (116, SV.oe 9 8 (Int.toNat p.pl) 5), (4, SV.bp 1 0), (8, SV.bp 4 0), (11, iv (p.pl)), (12, iv (c.pl)), (13, iv (idxI (Nd.kids ((outSt l c.pl).getD (Int.toNat p.pl) default)) ((ah.getD 0 default).pl)))], [(1, Own.box 1 (fun zt => SV.renm (rn [(1000, 1), (1001, 8), (0, 9)]) ((cmpG [SV.own 0]) zt)) 24), (4, Own.box 1 (cmpG [SV.v (Value.slice none 0 0)]) 24), (9, urowOf ndCell 8 default (outSt l c.pl) 61 5 Nd.kids inCell 1 0 3 l.length (some (Int.toNat p.pl, SV.own 11))), (11, ownOf inCell 1 0 ((Nd.kids ((outSt l c.pl).getD (Int.toNat p.pl) default)).take (Int.toNat (idxI (Nd.kids ((outSt l c.pl).getD (Int.toNat p.pl) default)) ((ah.getD 0 default).pl))) ++ ([c.pl]) ++ (Nd.kids ((outSt l c.pl).getD (Int.toNat p.pl) default)).drop (Int.toNat (idxI (Nd.kids ((outSt l c.pl).getD (Int.toNat p.pl) default)) ((ah.getD 0 default).pl)))) 3)]⟩ (by kernel_rfl) (by kernel_rfl) ?_ ⟨?_, ?_, ?_, ?_, ?_, ?_, ?_, ?_, ?_, ?_, ?_, ?_, ?_, ?_, ?_, ?_, Z⟩ ?_ ?_
       ·show Weak _ _ ⟨[(102, SV.junk), (103, SV.junk), (104, SV.junk), (105, SV.junk), (106, SV.junk), (107, SV.junk), (108, SV.junk), (109, SV.junk), (110, SV.junk), (111, SV.junk), (112, SV.junk), (113, SV.junk), (114, SV.junk), (115, SV.junk), (116, SV.junk), (4, SV.bp 1 0), (8, SV.bp 4 0), (11, iv (p.pl)), (12, iv (c.pl)), (13, iv (idxI (Nd.kids ((outSt l c.pl).getD (Int.toNat p.pl) default)) ((ah.getD 0 default).pl)))], [(1, Own.box 1 (fun zt => SV.renm (rn [(1000, 1), (1001, 8), (0, 9)]) ((cmpG [SV.own 0]) zt)) 24), (4, Own.box 1 (cmpG [SV.v (Value.slice none 0 0)]) 24), (9, urowOf ndCell 8 default (outSt l c.pl) 61 5 Nd.kids inCell 1 0 3 l.length (some (Int.toNat p.pl, SV.own 10))), (10, ownOf inCell 1 0 (Nd.kids ((outSt l c.pl).getD (Int.toNat p.pl) default)) 3)]⟩
        refine We ?_ ?_
        ·exact ⟨Vj, Vj, Vj, Vj, Vj, Vj, Vj, Vj, Vj, Vj, Vj, Vj, Vj, Vj, Vj, V rfl, V rfl, V rfl, V rfl, V rfl, Z⟩
        ·exact ⟨⟨_, rfl, ⟨rfl, rfl, (An rfl)⟩⟩, ⟨_, rfl, ⟨rfl, rfl, (An rfl)⟩⟩, ⟨_, rfl, rfl⟩, ⟨_, rfl, rfl⟩, Z⟩
       ·intro e hdn he hdp
        have h15 : e 15 = false := fls he fun q => by obtain ⟨r14, -, -, -, -, -, -, -, -, -, -, -, -, -, -, -, -⟩ := (show e 14 = true ∧ e 12 = true ∧ e 12 = true ∧ e 0 = true ∧ e 1 = true ∧ e 2 = true ∧ e 3 = true ∧ e 4 = true ∧ e 5 = true ∧ e 6 = true ∧ e 7 = true ∧ e 8 = true ∧ e 9 = true ∧ e 10 = true ∧ e 11 = true ∧ e 12 = true ∧ True from hdn 15 q); obtain ⟨r13, -, -, -, -, -, -, -, -, -, -, -, -, -, -⟩ := (show e 13 = true ∧ e 0 = true ∧ e 1 = true ∧ e 2 = true ∧ e 3 = true ∧ e 4 = true ∧ e 5 = true ∧ e 6 = true ∧ e 7 = true ∧ e 8 = true ∧ e 9 = true ∧ e 10 = true ∧ e 11 = true ∧ e 12 = true ∧ True from hdn 14 r14); obtain ⟨r1, -, -, -, -, -, -, -, -, -, -, -, -, -, -, -⟩ := (show e 1 = true ∧ e 2 = true ∧ e 0 = true ∧ e 1 = true ∧ e 2 = true ∧ e 3 = true ∧ e 4 = true ∧ e 5 = true ∧ e 6 = true ∧ e 7 = true ∧ e 8 = true ∧ e 9 = true ∧ e 10 = true ∧ e 11 = true ∧ e 12 = true ∧ True from hdn 13 r13); obtain ⟨r0, -⟩ := (show e 0 = true ∧ True from hdn 1 r1); exact r0
        simp only [setE, he, h15, cj_t, cj_f, cjn_t, cjn_f, cb_t, cb_f]
        exact U (FlB _ _ (V rfl) Un24 rfl 0 Sz22) <| Nt <| weakS ⟨V rfl, V rfl, V rfl, V rfl, V rfl, V rfl, V rfl, V rfl, V rfl, V rfl, V rfl, V rfl, V rfl, V rfl, V rfl, V rfl, V rfl, V rfl, V rfl, V rfl, Z⟩
       ·intro e hdn he hdp
        obtain ⟨h0, -⟩ := (show e 0 = true ∧ True from hdp)
        have h15 : e 15 = false := fls he fun q => by obtain ⟨r14, -, -, -, -, -, -, -, -, -, -, -, -, -, -, -, -⟩ := (show e 14 = true ∧ e 12 = true ∧ e 12 = true ∧ e 0 = true ∧ e 1 = true ∧ e 2 = true ∧ e 3 = true ∧ e 4 = true ∧ e 5 = true ∧ e 6 = true ∧ e 7 = true ∧ e 8 = true ∧ e 9 = true ∧ e 10 = true ∧ e 11 = true ∧ e 12 = true ∧ True from hdn 15 q); obtain ⟨r13, -, -, -, -, -, -, -, -, -, -, -, -, -, -⟩ := (show e 13 = true ∧ e 0 = true ∧ e 1 = true ∧ e 2 = true ∧ e 3 = true ∧ e 4 = true ∧ e 5 = true ∧ e 6 = true ∧ e 7 = true ∧ e 8 = true ∧ e 9 = true ∧ e 10 = true ∧ e 11 = true ∧ e 12 = true ∧ True from hdn 14 r14); obtain ⟨r1, -, -, -, -, -, -, -, -, -, -, -, -, -, -, -⟩ := (show e 1 = true ∧ e 2 = true ∧ e 0 = true ∧ e 1 = true ∧ e 2 = true ∧ e 3 = true ∧ e 4 = true ∧ e 5 = true ∧ e 6 = true ∧ e 7 = true ∧ e 8 = true ∧ e 9 = true ∧ e 10 = true ∧ e 11 = true ∧ e 12 = true ∧ True from hdn 13 r13); exact r1
        cases hu12 : e 12
        ·simp only [setE, h0, he, h15, hu12, cj_t, cj_f, cjn_t, cjn_f, cb_t, cb_f]
         refine U (LdB (V rfl) rfl Ga22 (by decide)) <| Nt <| We ?_ ?_
         ·exact ⟨V rfl, V rfl, V rfl, V rfl, V rfl, V rfl, V rfl, V rfl, V rfl, V rfl, V rfl, V rfl, Vj, V rfl, V rfl, V rfl, V rfl, V rfl, V rfl, V rfl, Z⟩
         ·exact ⟨⟨_, rfl, ⟨rfl, rfl, (An rfl)⟩⟩, ⟨_, rfl, ⟨rfl, rfl, (An rfl)⟩⟩, ⟨_, rfl, rfl⟩, ⟨_, rfl, rfl⟩, Z⟩
        ·simp only [setE, h0, he, h15, hu12, cj_t, cj_f, cjn_t, cjn_f, cb_t, cb_f]
         refine U (LdB (V rfl) rfl Ga22 (by decide)) <| Nt <| We ?_ ?_
         ·exact ⟨V rfl, V rfl, V rfl, V rfl, V rfl, V rfl, V rfl, V rfl, V rfl, V rfl, V rfl, V rfl, V rfl, V rfl, V rfl, V rfl, V rfl, V rfl, V rfl, V rfl, Z⟩
         ·exact ⟨⟨_, rfl, ⟨rfl, rfl, (An rfl)⟩⟩, ⟨_, rfl, ⟨rfl, rfl, (An rfl)⟩⟩, ⟨_, rfl, rfl⟩, ⟨_, rfl, rfl⟩, Z⟩
       ·intro e hdn he hdp
        have h15 : e 15 = false := fls he fun q => by obtain ⟨r14, -, -, -, -, -, -, -, -, -, -, -, -, -, -, -, -⟩ := (show e 14 = true ∧ e 12 = true ∧ e 12 = true ∧ e 0 = true ∧ e 1 = true ∧ e 2 = true ∧ e 3 = true ∧ e 4 = true ∧ e 5 = true ∧ e 6 = true ∧ e 7 = true ∧ e 8 = true ∧ e 9 = true ∧ e 10 = true ∧ e 11 = true ∧ e 12 = true ∧ True from hdn 15 q); obtain ⟨r13, -, -, -, -, -, -, -, -, -, -, -, -, -, -⟩ := (show e 13 = true ∧ e 0 = true ∧ e 1 = true ∧ e 2 = true ∧ e 3 = true ∧ e 4 = true ∧ e 5 = true ∧ e 6 = true ∧ e 7 = true ∧ e 8 = true ∧ e 9 = true ∧ e 10 = true ∧ e 11 = true ∧ e 12 = true ∧ True from hdn 14 r14); obtain ⟨-, r2, -, -, -, -, -, -, -, -, -, -, -, -, -, -⟩ := (show e 1 = true ∧ e 2 = true ∧ e 0 = true ∧ e 1 = true ∧ e 2 = true ∧ e 3 = true ∧ e 4 = true ∧ e 5 = true ∧ e 6 = true ∧ e 7 = true ∧ e 8 = true ∧ e 9 = true ∧ e 10 = true ∧ e 11 = true ∧ e 12 = true ∧ True from hdn 13 r13); exact r2
        simp only [setE, he, h15, cj_t, cj_f, cjn_t, cjn_f, cb_t, cb_f]
        exact U (Mv (V rfl)) <| Nt <| weakS ⟨V rfl, V rfl, V rfl, V rfl, V rfl, V rfl, V rfl, V rfl, V rfl, V rfl, V rfl, V rfl, V rfl, V rfl, V rfl, V rfl, V rfl, V rfl, V rfl, V rfl, Z⟩
       ·intro e hdn he hdp
        have h12 : e 12 = false := fls he fun q => by obtain ⟨r8, -, -, -⟩ := (show e 8 = true ∧ e 9 = true ∧ e 11 = true ∧ True from hdn 12 q); obtain ⟨r7, -⟩ := (show e 7 = true ∧ True from hdn 8 r8); obtain ⟨r6, -⟩ := (show e 6 = true ∧ True from hdn 7 r7); obtain ⟨r4, -, -⟩ := (show e 4 = true ∧ e 5 = true ∧ True from hdn 6 r6); obtain ⟨r3, -⟩ := (show e 3 = true ∧ True from hdn 4 r4); exact r3
        have h15 : e 15 = false := fls he fun q => by obtain ⟨r14, -, -, -, -, -, -, -, -, -, -, -, -, -, -, -, -⟩ := (show e 14 = true ∧ e 12 = true ∧ e 12 = true ∧ e 0 = true ∧ e 1 = true ∧ e 2 = true ∧ e 3 = true ∧ e 4 = true ∧ e 5 = true ∧ e 6 = true ∧ e 7 = true ∧ e 8 = true ∧ e 9 = true ∧ e 10 = true ∧ e 11 = true ∧ e 12 = true ∧ True from hdn 15 q); obtain ⟨r13, -, -, -, -, -, -, -, -, -, -, -, -, -, -⟩ := (show e 13 = true ∧ e 0 = true ∧ e 1 = true ∧ e 2 = true ∧ e 3 = true ∧ e 4 = true ∧ e 5 = true ∧ e 6 = true ∧ e 7 = true ∧ e 8 = true ∧ e 9 = true ∧ e 10 = true ∧ e 11 = true ∧ e 12 = true ∧ True from hdn 14 r14); obtain ⟨-, -, -, -, -, -, -, -, -, -, -, -, -, -, r12, -⟩ := (show e 1 = true ∧ e 2 = true ∧ e 0 = true ∧ e 1 = true ∧ e 2 = true ∧ e 3 = true ∧ e 4 = true ∧ e 5 = true ∧ e 6 = true ∧ e 7 = true ∧ e 8 = true ∧ e 9 = true ∧ e 10 = true ∧ e 11 = true ∧ e 12 = true ∧ True from hdn 13 r13); obtain ⟨r8, -, -, -⟩ := (show e 8 = true ∧ e 9 = true ∧ e 11 = true ∧ True from hdn 12 r12); obtain ⟨r7, -⟩ := (show e 7 = true ∧ True from hdn 8 r8); obtain ⟨r6, -⟩ := (show e 6 = true ∧ True from hdn 7 r7); obtain ⟨r4, -, -⟩ := (show e 4 = true ∧ e 5 = true ∧ True from hdn 6 r6); obtain ⟨r3, -⟩ := (show e 3 = true ∧ True from hdn 4 r4); exact r3
        simp only [setE, he, h12, h15, cj_t, cj_f, cjn_t, cjn_f, cb_t, cb_f]
        refine U (FlB _ _ (V rfl) Un24 rfl 0 Sz22) <| Nt <| We ?_ ?_
        ·exact ⟨V rfl, V rfl, V rfl, V rfl, V rfl, V rfl, V rfl, V rfl, V rfl, V rfl, V rfl, V rfl, Vj, V rfl, V rfl, V rfl, V rfl, V rfl, V rfl, V rfl, Z⟩
        ·exact ⟨⟨_, rfl, ⟨rfl, rfl, (An rfl)⟩⟩, ⟨_, rfl, ⟨rfl, rfl, (An rfl)⟩⟩, ⟨_, rfl, rfl⟩, ⟨_, rfl, rfl⟩, Z⟩
       ·intro e hdn he hdp
        obtain ⟨h3, -⟩ := (show e 3 = true ∧ True from hdp)
        have h12 : e 12 = false := fls he fun q => by obtain ⟨r8, -, -, -⟩ := (show e 8 = true ∧ e 9 = true ∧ e 11 = true ∧ True from hdn 12 q); obtain ⟨r7, -⟩ := (show e 7 = true ∧ True from hdn 8 r8); obtain ⟨r6, -⟩ := (show e 6 = true ∧ True from hdn 7 r7); obtain ⟨r4, -, -⟩ := (show e 4 = true ∧ e 5 = true ∧ True from hdn 6 r6); exact r4
        have h15 : e 15 = false := fls he fun q => by obtain ⟨r14, -, -, -, -, -, -, -, -, -, -, -, -, -, -, -, -⟩ := (show e 14 = true ∧ e 12 = true ∧ e 12 = true ∧ e 0 = true ∧ e 1 = true ∧ e 2 = true ∧ e 3 = true ∧ e 4 = true ∧ e 5 = true ∧ e 6 = true ∧ e 7 = true ∧ e 8 = true ∧ e 9 = true ∧ e 10 = true ∧ e 11 = true ∧ e 12 = true ∧ True from hdn 15 q); obtain ⟨r13, -, -, -, -, -, -, -, -, -, -, -, -, -, -⟩ := (show e 13 = true ∧ e 0 = true ∧ e 1 = true ∧ e 2 = true ∧ e 3 = true ∧ e 4 = true ∧ e 5 = true ∧ e 6 = true ∧ e 7 = true ∧ e 8 = true ∧ e 9 = true ∧ e 10 = true ∧ e 11 = true ∧ e 12 = true ∧ True from hdn 14 r14); obtain ⟨-, -, -, -, -, -, -, -, -, -, -, -, -, -, r12, -⟩ := (show e 1 = true ∧ e 2 = true ∧ e 0 = true ∧ e 1 = true ∧ e 2 = true ∧ e 3 = true ∧ e 4 = true ∧ e 5 = true ∧ e 6 = true ∧ e 7 = true ∧ e 8 = true ∧ e 9 = true ∧ e 10 = true ∧ e 11 = true ∧ e 12 = true ∧ True from hdn 13 r13); obtain ⟨r8, -, -, -⟩ := (show e 8 = true ∧ e 9 = true ∧ e 11 = true ∧ True from hdn 12 r12); obtain ⟨r7, -⟩ := (show e 7 = true ∧ True from hdn 8 r8); obtain ⟨r6, -⟩ := (show e 6 = true ∧ True from hdn 7 r7); obtain ⟨r4, -, -⟩ := (show e 4 = true ∧ e 5 = true ∧ True from hdn 6 r6); exact r4
        simp only [setE, h3, he, h12, h15, cj_t, cj_f, cjn_t, cjn_f, cb_t, cb_f]
        refine U (LdB (V rfl) rfl Ga22 (by decide)) <| Nt <| We ?_ ?_
        ·exact ⟨V rfl, V rfl, V rfl, V rfl, V rfl, V rfl, V rfl, V rfl, V rfl, V rfl, V rfl, V rfl, Vj, V rfl, V rfl, V rfl, V rfl, V rfl, V rfl, V rfl, Z⟩
        ·exact ⟨⟨_, rfl, ⟨rfl, rfl, (An rfl)⟩⟩, ⟨_, rfl, ⟨rfl, rfl, (An rfl)⟩⟩, ⟨_, rfl, rfl⟩, ⟨_, rfl, rfl⟩, Z⟩
       ·intro e hdn he hdp
        have h12 : e 12 = false := fls he fun q => by obtain ⟨r8, -, -, -⟩ := (show e 8 = true ∧ e 9 = true ∧ e 11 = true ∧ True from hdn 12 q); obtain ⟨r7, -⟩ := (show e 7 = true ∧ True from hdn 8 r8); obtain ⟨r6, -⟩ := (show e 6 = true ∧ True from hdn 7 r7); obtain ⟨-, r5, -⟩ := (show e 4 = true ∧ e 5 = true ∧ True from hdn 6 r6); exact r5
        have h15 : e 15 = false := fls he fun q => by obtain ⟨r14, -, -, -, -, -, -, -, -, -, -, -, -, -, -, -, -⟩ := (show e 14 = true ∧ e 12 = true ∧ e 12 = true ∧ e 0 = true ∧ e 1 = true ∧ e 2 = true ∧ e 3 = true ∧ e 4 = true ∧ e 5 = true ∧ e 6 = true ∧ e 7 = true ∧ e 8 = true ∧ e 9 = true ∧ e 10 = true ∧ e 11 = true ∧ e 12 = true ∧ True from hdn 15 q); obtain ⟨r13, -, -, -, -, -, -, -, -, -, -, -, -, -, -⟩ := (show e 13 = true ∧ e 0 = true ∧ e 1 = true ∧ e 2 = true ∧ e 3 = true ∧ e 4 = true ∧ e 5 = true ∧ e 6 = true ∧ e 7 = true ∧ e 8 = true ∧ e 9 = true ∧ e 10 = true ∧ e 11 = true ∧ e 12 = true ∧ True from hdn 14 r14); obtain ⟨-, -, -, -, -, -, -, -, -, -, -, -, -, -, r12, -⟩ := (show e 1 = true ∧ e 2 = true ∧ e 0 = true ∧ e 1 = true ∧ e 2 = true ∧ e 3 = true ∧ e 4 = true ∧ e 5 = true ∧ e 6 = true ∧ e 7 = true ∧ e 8 = true ∧ e 9 = true ∧ e 10 = true ∧ e 11 = true ∧ e 12 = true ∧ True from hdn 13 r13); obtain ⟨r8, -, -, -⟩ := (show e 8 = true ∧ e 9 = true ∧ e 11 = true ∧ True from hdn 12 r12); obtain ⟨r7, -⟩ := (show e 7 = true ∧ True from hdn 8 r8); obtain ⟨r6, -⟩ := (show e 6 = true ∧ True from hdn 7 r7); obtain ⟨-, r5, -⟩ := (show e 4 = true ∧ e 5 = true ∧ True from hdn 6 r6); exact r5
        simp only [setE, he, h12, h15, cj_t, cj_f, cjn_t, cjn_f, cb_t, cb_f]
        refine U (Mv (V rfl)) <| Nt <| We ?_ ?_
        ·exact ⟨V rfl, V rfl, V rfl, V rfl, V rfl, V rfl, V rfl, V rfl, V rfl, V rfl, V rfl, V rfl, Vj, V rfl, V rfl, V rfl, V rfl, V rfl, V rfl, V rfl, Z⟩
        ·exact ⟨⟨_, rfl, ⟨rfl, rfl, (An rfl)⟩⟩, ⟨_, rfl, ⟨rfl, rfl, (An rfl)⟩⟩, ⟨_, rfl, rfl⟩, ⟨_, rfl, rfl⟩, Z⟩
       ·intro e hdn he hdp
        obtain ⟨h4, h5, -⟩ := (show e 4 = true ∧ e 5 = true ∧ True from hdp)
        obtain ⟨h3, -⟩ := (show e 3 = true ∧ True from hdn 4 h4)
        have h12 : e 12 = false := fls he fun q => by obtain ⟨r8, -, -, -⟩ := (show e 8 = true ∧ e 9 = true ∧ e 11 = true ∧ True from hdn 12 q); obtain ⟨r7, -⟩ := (show e 7 = true ∧ True from hdn 8 r8); obtain ⟨r6, -⟩ := (show e 6 = true ∧ True from hdn 7 r7); exact r6
        have h15 : e 15 = false := fls he fun q => by obtain ⟨r14, -, -, -, -, -, -, -, -, -, -, -, -, -, -, -, -⟩ := (show e 14 = true ∧ e 12 = true ∧ e 12 = true ∧ e 0 = true ∧ e 1 = true ∧ e 2 = true ∧ e 3 = true ∧ e 4 = true ∧ e 5 = true ∧ e 6 = true ∧ e 7 = true ∧ e 8 = true ∧ e 9 = true ∧ e 10 = true ∧ e 11 = true ∧ e 12 = true ∧ True from hdn 15 q); obtain ⟨r13, -, -, -, -, -, -, -, -, -, -, -, -, -, -⟩ := (show e 13 = true ∧ e 0 = true ∧ e 1 = true ∧ e 2 = true ∧ e 3 = true ∧ e 4 = true ∧ e 5 = true ∧ e 6 = true ∧ e 7 = true ∧ e 8 = true ∧ e 9 = true ∧ e 10 = true ∧ e 11 = true ∧ e 12 = true ∧ True from hdn 14 r14); obtain ⟨-, -, -, -, -, -, -, -, -, -, -, -, -, -, r12, -⟩ := (show e 1 = true ∧ e 2 = true ∧ e 0 = true ∧ e 1 = true ∧ e 2 = true ∧ e 3 = true ∧ e 4 = true ∧ e 5 = true ∧ e 6 = true ∧ e 7 = true ∧ e 8 = true ∧ e 9 = true ∧ e 10 = true ∧ e 11 = true ∧ e 12 = true ∧ True from hdn 13 r13); obtain ⟨r8, -, -, -⟩ := (show e 8 = true ∧ e 9 = true ∧ e 11 = true ∧ True from hdn 12 r12); obtain ⟨r7, -⟩ := (show e 7 = true ∧ True from hdn 8 r8); obtain ⟨r6, -⟩ := (show e 6 = true ∧ True from hdn 7 r7); exact r6
        simp only [setE, h3, h4, h5, he, h12, h15, cj_t, cj_f, cjn_t, cjn_f, cb_t, cb_f]
        refine U (q_idxU (V rfl) rfl (V rfl) ts22 te22 (by omega) (by first | omega | (simp only [List.length_set]; omega))) <| Nt <| We ?_ ?_
        ·exact ⟨V rfl, V rfl, V rfl, V rfl, V rfl, V rfl, V rfl, V rfl, V rfl, V rfl, V rfl, V rfl, Vj, V rfl, V rfl, V rfl, V rfl, V rfl, V rfl, V rfl, Z⟩
        ·exact ⟨⟨_, rfl, ⟨rfl, rfl, (An rfl)⟩⟩, ⟨_, rfl, ⟨rfl, rfl, (An rfl)⟩⟩, ⟨_, rfl, rfl⟩, ⟨_, rfl, rfl⟩, Z⟩
       ·intro e hdn he hdp
        obtain ⟨h6, -⟩ := (show e 6 = true ∧ True from hdp)
        obtain ⟨h4, h5, -⟩ := (show e 4 = true ∧ e 5 = true ∧ True from hdn 6 h6)
        obtain ⟨h3, -⟩ := (show e 3 = true ∧ True from hdn 4 h4)
        have h12 : e 12 = false := fls he fun q => by obtain ⟨r8, -, -, -⟩ := (show e 8 = true ∧ e 9 = true ∧ e 11 = true ∧ True from hdn 12 q); obtain ⟨r7, -⟩ := (show e 7 = true ∧ True from hdn 8 r8); exact r7
        have h15 : e 15 = false := fls he fun q => by obtain ⟨r14, -, -, -, -, -, -, -, -, -, -, -, -, -, -, -, -⟩ := (show e 14 = true ∧ e 12 = true ∧ e 12 = true ∧ e 0 = true ∧ e 1 = true ∧ e 2 = true ∧ e 3 = true ∧ e 4 = true ∧ e 5 = true ∧ e 6 = true ∧ e 7 = true ∧ e 8 = true ∧ e 9 = true ∧ e 10 = true ∧ e 11 = true ∧ e 12 = true ∧ True from hdn 15 q); obtain ⟨r13, -, -, -, -, -, -, -, -, -, -, -, -, -, -⟩ := (show e 13 = true ∧ e 0 = true ∧ e 1 = true ∧ e 2 = true ∧ e 3 = true ∧ e 4 = true ∧ e 5 = true ∧ e 6 = true ∧ e 7 = true ∧ e 8 = true ∧ e 9 = true ∧ e 10 = true ∧ e 11 = true ∧ e 12 = true ∧ True from hdn 14 r14); obtain ⟨-, -, -, -, -, -, -, -, -, -, -, -, -, -, r12, -⟩ := (show e 1 = true ∧ e 2 = true ∧ e 0 = true ∧ e 1 = true ∧ e 2 = true ∧ e 3 = true ∧ e 4 = true ∧ e 5 = true ∧ e 6 = true ∧ e 7 = true ∧ e 8 = true ∧ e 9 = true ∧ e 10 = true ∧ e 11 = true ∧ e 12 = true ∧ True from hdn 13 r13); obtain ⟨r8, -, -, -⟩ := (show e 8 = true ∧ e 9 = true ∧ e 11 = true ∧ True from hdn 12 r12); obtain ⟨r7, -⟩ := (show e 7 = true ∧ True from hdn 8 r8); exact r7
        simp only [setE, h3, h4, h5, h6, he, h12, h15, cj_t, cj_f, cjn_t, cjn_f, cb_t, cb_f]
        refine U (FlO _ _ (V rfl) Un61 rfl 0 Sz33) <| Nt <| We ?_ ?_
        ·exact ⟨V rfl, V rfl, V rfl, V rfl, V rfl, V rfl, V rfl, V rfl, V rfl, V rfl, V rfl, V rfl, Vj, V rfl, V rfl, V rfl, V rfl, V rfl, V rfl, V rfl, Z⟩
        ·exact ⟨⟨_, rfl, ⟨rfl, rfl, (An rfl)⟩⟩, ⟨_, rfl, ⟨rfl, rfl, (An rfl)⟩⟩, ⟨_, rfl, rfl⟩, ⟨_, rfl, rfl⟩, Z⟩
       ·intro e hdn he hdp
        obtain ⟨h7, -⟩ := (show e 7 = true ∧ True from hdp)
        obtain ⟨h6, -⟩ := (show e 6 = true ∧ True from hdn 7 h7)
        obtain ⟨h4, h5, -⟩ := (show e 4 = true ∧ e 5 = true ∧ True from hdn 6 h6)
        obtain ⟨h3, -⟩ := (show e 3 = true ∧ True from hdn 4 h4)
        have h12 : e 12 = false := fls he fun q => by obtain ⟨r8, -, -, -⟩ := (show e 8 = true ∧ e 9 = true ∧ e 11 = true ∧ True from hdn 12 q); exact r8
        have h15 : e 15 = false := fls he fun q => by obtain ⟨r14, -, -, -, -, -, -, -, -, -, -, -, -, -, -, -, -⟩ := (show e 14 = true ∧ e 12 = true ∧ e 12 = true ∧ e 0 = true ∧ e 1 = true ∧ e 2 = true ∧ e 3 = true ∧ e 4 = true ∧ e 5 = true ∧ e 6 = true ∧ e 7 = true ∧ e 8 = true ∧ e 9 = true ∧ e 10 = true ∧ e 11 = true ∧ e 12 = true ∧ True from hdn 15 q); obtain ⟨r13, -, -, -, -, -, -, -, -, -, -, -, -, -, -⟩ := (show e 13 = true ∧ e 0 = true ∧ e 1 = true ∧ e 2 = true ∧ e 3 = true ∧ e 4 = true ∧ e 5 = true ∧ e 6 = true ∧ e 7 = true ∧ e 8 = true ∧ e 9 = true ∧ e 10 = true ∧ e 11 = true ∧ e 12 = true ∧ True from hdn 14 r14); obtain ⟨-, -, -, -, -, -, -, -, -, -, -, -, -, -, r12, -⟩ := (show e 1 = true ∧ e 2 = true ∧ e 0 = true ∧ e 1 = true ∧ e 2 = true ∧ e 3 = true ∧ e 4 = true ∧ e 5 = true ∧ e 6 = true ∧ e 7 = true ∧ e 8 = true ∧ e 9 = true ∧ e 10 = true ∧ e 11 = true ∧ e 12 = true ∧ True from hdn 13 r13); obtain ⟨r8, -, -, -⟩ := (show e 8 = true ∧ e 9 = true ∧ e 11 = true ∧ True from hdn 12 r12); exact r8
        simp only [setE, h3, h4, h5, h6, h7, he, h12, h15, cj_t, cj_f, cjn_t, cjn_f, cb_t, cb_f]
        refine U (LdU (V rfl) rfl Ga33 (by decide) uat_hole) <| Nt <| We ?_ ?_
        ·exact ⟨V rfl, V rfl, V rfl, V rfl, V rfl, V rfl, V rfl, V rfl, V rfl, V rfl, V rfl, V rfl, Vj, V rfl, V rfl, V rfl, V rfl, V rfl, V rfl, V rfl, Z⟩
        ·exact ⟨⟨_, rfl, ⟨rfl, rfl, (An rfl)⟩⟩, ⟨_, rfl, ⟨rfl, rfl, (An rfl)⟩⟩, ⟨_, rfl, rfl⟩, ⟨_, rfl, rfl⟩, Z⟩
       ·intro e hdn he hdp
        have h12 : e 12 = false := fls he fun q => by obtain ⟨-, r9, -, -⟩ := (show e 8 = true ∧ e 9 = true ∧ e 11 = true ∧ True from hdn 12 q); exact r9
        have h15 : e 15 = false := fls he fun q => by obtain ⟨r14, -, -, -, -, -, -, -, -, -, -, -, -, -, -, -, -⟩ := (show e 14 = true ∧ e 12 = true ∧ e 12 = true ∧ e 0 = true ∧ e 1 = true ∧ e 2 = true ∧ e 3 = true ∧ e 4 = true ∧ e 5 = true ∧ e 6 = true ∧ e 7 = true ∧ e 8 = true ∧ e 9 = true ∧ e 10 = true ∧ e 11 = true ∧ e 12 = true ∧ True from hdn 15 q); obtain ⟨r13, -, -, -, -, -, -, -, -, -, -, -, -, -, -⟩ := (show e 13 = true ∧ e 0 = true ∧ e 1 = true ∧ e 2 = true ∧ e 3 = true ∧ e 4 = true ∧ e 5 = true ∧ e 6 = true ∧ e 7 = true ∧ e 8 = true ∧ e 9 = true ∧ e 10 = true ∧ e 11 = true ∧ e 12 = true ∧ True from hdn 14 r14); obtain ⟨-, -, -, -, -, -, -, -, -, -, -, -, -, -, r12, -⟩ := (show e 1 = true ∧ e 2 = true ∧ e 0 = true ∧ e 1 = true ∧ e 2 = true ∧ e 3 = true ∧ e 4 = true ∧ e 5 = true ∧ e 6 = true ∧ e 7 = true ∧ e 8 = true ∧ e 9 = true ∧ e 10 = true ∧ e 11 = true ∧ e 12 = true ∧ True from hdn 13 r13); obtain ⟨-, r9, -, -⟩ := (show e 8 = true ∧ e 9 = true ∧ e 11 = true ∧ True from hdn 12 r12); exact r9
        simp only [setE, he, h12, h15, cj_t, cj_f, cjn_t, cjn_f, cb_t, cb_f]
        refine U (Mv (V rfl)) <| Nt <| We ?_ ?_
        ·exact ⟨V rfl, V rfl, V rfl, V rfl, V rfl, V rfl, V rfl, V rfl, V rfl, V rfl, V rfl, V rfl, Vj, V rfl, V rfl, V rfl, V rfl, V rfl, V rfl, V rfl, Z⟩
        ·exact ⟨⟨_, rfl, ⟨rfl, rfl, (An rfl)⟩⟩, ⟨_, rfl, ⟨rfl, rfl, (An rfl)⟩⟩, ⟨_, rfl, rfl⟩, ⟨_, rfl, rfl⟩, Z⟩
       ·intro e hdn he hdp
        have h12 : e 12 = false := fls he fun q => by obtain ⟨-, -, r11, -⟩ := (show e 8 = true ∧ e 9 = true ∧ e 11 = true ∧ True from hdn 12 q); obtain ⟨r10, -⟩ := (show e 10 = true ∧ True from hdn 11 r11); exact r10
        have h15 : e 15 = false := fls he fun q => by obtain ⟨r14, -, -, -, -, -, -, -, -, -, -, -, -, -, -, -, -⟩ := (show e 14 = true ∧ e 12 = true ∧ e 12 = true ∧ e 0 = true ∧ e 1 = true ∧ e 2 = true ∧ e 3 = true ∧ e 4 = true ∧ e 5 = true ∧ e 6 = true ∧ e 7 = true ∧ e 8 = true ∧ e 9 = true ∧ e 10 = true ∧ e 11 = true ∧ e 12 = true ∧ True from hdn 15 q); obtain ⟨r13, -, -, -, -, -, -, -, -, -, -, -, -, -, -⟩ := (show e 13 = true ∧ e 0 = true ∧ e 1 = true ∧ e 2 = true ∧ e 3 = true ∧ e 4 = true ∧ e 5 = true ∧ e 6 = true ∧ e 7 = true ∧ e 8 = true ∧ e 9 = true ∧ e 10 = true ∧ e 11 = true ∧ e 12 = true ∧ True from hdn 14 r14); obtain ⟨-, -, -, -, -, -, -, -, -, -, -, -, -, -, r12, -⟩ := (show e 1 = true ∧ e 2 = true ∧ e 0 = true ∧ e 1 = true ∧ e 2 = true ∧ e 3 = true ∧ e 4 = true ∧ e 5 = true ∧ e 6 = true ∧ e 7 = true ∧ e 8 = true ∧ e 9 = true ∧ e 10 = true ∧ e 11 = true ∧ e 12 = true ∧ True from hdn 13 r13); obtain ⟨-, -, r11, -⟩ := (show e 8 = true ∧ e 9 = true ∧ e 11 = true ∧ True from hdn 12 r12); obtain ⟨r10, -⟩ := (show e 10 = true ∧ True from hdn 11 r11); exact r10
        simp only [setE, he, h12, h15, cj_t, cj_f, cjn_t, cjn_f, cb_t, cb_f]
        refine U (Mv (V rfl)) <| Nt <| We ?_ ?_
        ·exact ⟨V rfl, V rfl, V rfl, V rfl, V rfl, V rfl, V rfl, V rfl, V rfl, V rfl, V rfl, V rfl, Vj, V rfl, V rfl, V rfl, V rfl, V rfl, V rfl, V rfl, Z⟩
        ·exact ⟨⟨_, rfl, ⟨rfl, rfl, (An rfl)⟩⟩, ⟨_, rfl, ⟨rfl, rfl, (An rfl)⟩⟩, ⟨_, rfl, rfl⟩, ⟨_, rfl, rfl⟩, Z⟩
       ·intro e hdn he hdp
        obtain ⟨h10, -⟩ := (show e 10 = true ∧ True from hdp)
        have h12 : e 12 = false := fls he fun q => by obtain ⟨-, -, r11, -⟩ := (show e 8 = true ∧ e 9 = true ∧ e 11 = true ∧ True from hdn 12 q); exact r11
        have h15 : e 15 = false := fls he fun q => by obtain ⟨r14, -, -, -, -, -, -, -, -, -, -, -, -, -, -, -, -⟩ := (show e 14 = true ∧ e 12 = true ∧ e 12 = true ∧ e 0 = true ∧ e 1 = true ∧ e 2 = true ∧ e 3 = true ∧ e 4 = true ∧ e 5 = true ∧ e 6 = true ∧ e 7 = true ∧ e 8 = true ∧ e 9 = true ∧ e 10 = true ∧ e 11 = true ∧ e 12 = true ∧ True from hdn 15 q); obtain ⟨r13, -, -, -, -, -, -, -, -, -, -, -, -, -, -⟩ := (show e 13 = true ∧ e 0 = true ∧ e 1 = true ∧ e 2 = true ∧ e 3 = true ∧ e 4 = true ∧ e 5 = true ∧ e 6 = true ∧ e 7 = true ∧ e 8 = true ∧ e 9 = true ∧ e 10 = true ∧ e 11 = true ∧ e 12 = true ∧ True from hdn 14 r14); obtain ⟨-, -, -, -, -, -, -, -, -, -, -, -, -, -, r12, -⟩ := (show e 1 = true ∧ e 2 = true ∧ e 0 = true ∧ e 1 = true ∧ e 2 = true ∧ e 3 = true ∧ e 4 = true ∧ e 5 = true ∧ e 6 = true ∧ e 7 = true ∧ e 8 = true ∧ e 9 = true ∧ e 10 = true ∧ e 11 = true ∧ e 12 = true ∧ True from hdn 13 r13); obtain ⟨-, -, r11, -⟩ := (show e 8 = true ∧ e 9 = true ∧ e 11 = true ∧ True from hdn 12 r12); exact r11
        simp only [setE, h10, he, h12, h15, cj_t, cj_f, cjn_t, cjn_f, cb_t, cb_f]
        refine Uw (w_bs (n := 1) (zget := fun _ => iv 0) [(fun _ => iv (c.pl))] (rowG inCell 0 [c.pl]) Un33 Sz3 zero3 (by decide) rfl (by decide) ⟨⟨rfl, .inr ⟨rfl, (V rfl), rfl⟩, rfl⟩, Z⟩ ⟨Z, ⟨Z, rfl⟩⟩) <| Nt <| We ?_ ?_
        ·exact ⟨V rfl, V rfl, V rfl, V rfl, V rfl, V rfl, V rfl, V rfl, V rfl, V rfl, V rfl, V rfl, Vj, V rfl, V rfl, V rfl, V rfl, V rfl, V rfl, V rfl, Z⟩
        ·exact ⟨⟨_, rfl, ⟨rfl, rfl, (An rfl)⟩⟩, ⟨_, rfl, ⟨rfl, rfl, (An rfl)⟩⟩, ⟨_, rfl, rfl⟩, ⟨_, rfl, rfl⟩, Z⟩
       ·intro e hdn he hdp
        obtain ⟨h8, h9, h11, -⟩ := (show e 8 = true ∧ e 9 = true ∧ e 11 = true ∧ True from hdp)
        obtain ⟨h10, -⟩ := (show e 10 = true ∧ True from hdn 11 h11)
        obtain ⟨h7, -⟩ := (show e 7 = true ∧ True from hdn 8 h8)
        obtain ⟨h6, -⟩ := (show e 6 = true ∧ True from hdn 7 h7)
        obtain ⟨h4, h5, -⟩ := (show e 4 = true ∧ e 5 = true ∧ True from hdn 6 h6)
        obtain ⟨h3, -⟩ := (show e 3 = true ∧ True from hdn 4 h4)
        have h13 : e 13 = false := fls he fun q => by obtain ⟨-, -, -, -, -, -, -, -, -, -, -, -, -, -, r12, -⟩ := (show e 1 = true ∧ e 2 = true ∧ e 0 = true ∧ e 1 = true ∧ e 2 = true ∧ e 3 = true ∧ e 4 = true ∧ e 5 = true ∧ e 6 = true ∧ e 7 = true ∧ e 8 = true ∧ e 9 = true ∧ e 10 = true ∧ e 11 = true ∧ e 12 = true ∧ True from hdn 13 q); exact r12
        have h14 : e 14 = false := fls he fun q => by obtain ⟨r13, -, -, -, -, -, -, -, -, -, -, -, -, -, -⟩ := (show e 13 = true ∧ e 0 = true ∧ e 1 = true ∧ e 2 = true ∧ e 3 = true ∧ e 4 = true ∧ e 5 = true ∧ e 6 = true ∧ e 7 = true ∧ e 8 = true ∧ e 9 = true ∧ e 10 = true ∧ e 11 = true ∧ e 12 = true ∧ True from hdn 14 q); obtain ⟨-, -, -, -, -, -, -, -, -, -, -, -, -, -, r12, -⟩ := (show e 1 = true ∧ e 2 = true ∧ e 0 = true ∧ e 1 = true ∧ e 2 = true ∧ e 3 = true ∧ e 4 = true ∧ e 5 = true ∧ e 6 = true ∧ e 7 = true ∧ e 8 = true ∧ e 9 = true ∧ e 10 = true ∧ e 11 = true ∧ e 12 = true ∧ True from hdn 13 r13); exact r12
        have h15 : e 15 = false := fls he fun q => by obtain ⟨r14, -, -, -, -, -, -, -, -, -, -, -, -, -, -, -, -⟩ := (show e 14 = true ∧ e 12 = true ∧ e 12 = true ∧ e 0 = true ∧ e 1 = true ∧ e 2 = true ∧ e 3 = true ∧ e 4 = true ∧ e 5 = true ∧ e 6 = true ∧ e 7 = true ∧ e 8 = true ∧ e 9 = true ∧ e 10 = true ∧ e 11 = true ∧ e 12 = true ∧ True from hdn 15 q); obtain ⟨r13, -, -, -, -, -, -, -, -, -, -, -, -, -, -⟩ := (show e 13 = true ∧ e 0 = true ∧ e 1 = true ∧ e 2 = true ∧ e 3 = true ∧ e 4 = true ∧ e 5 = true ∧ e 6 = true ∧ e 7 = true ∧ e 8 = true ∧ e 9 = true ∧ e 10 = true ∧ e 11 = true ∧ e 12 = true ∧ True from hdn 14 r14); obtain ⟨-, -, -, -, -, -, -, -, -, -, -, -, -, -, r12, -⟩ := (show e 1 = true ∧ e 2 = true ∧ e 0 = true ∧ e 1 = true ∧ e 2 = true ∧ e 3 = true ∧ e 4 = true ∧ e 5 = true ∧ e 6 = true ∧ e 7 = true ∧ e 8 = true ∧ e 9 = true ∧ e 10 = true ∧ e 11 = true ∧ e 12 = true ∧ True from hdn 13 r13); exact r12
        simp only [setE, h3, h4, h5, h6, h7, h8, h9, h10, h11, he, h13, h14, h15, cj_t, cj_f, cjn_t, cjn_f, cb_t, cb_f]
        refine CM (cargs := [SV.own 1000, iv (idxI (Nd.kids ((outSt l c.pl).getD (Int.toNat p.pl) default)) ((ah.getD 0 default).pl)), inRow ([c.pl])]) [(1000, 10)] [(0, 11)] en98 (by exact ⟨(V rfl), (V rfl), (V rfl), Z⟩) (insI_ct (Nd.kids ((outSt l c.pl).getD (Int.toNat p.pl) default)) ([c.pl]) (idxI (Nd.kids ((outSt l c.pl).getD (Int.toNat p.pl) default)) ((ah.getD 0 default).pl)) (by first | omega | assumption) (by first | omega | (simp only [List.length_cons, List.length_nil]; omega) | assumption)) (by exact ⟨⟨_, rfl, rfl⟩, Z⟩) rfl (freshN_cons (fresh_mk ⟨(noId_cj rfl), (noId_cj rfl), (noId_cj rfl), rfl, rfl, rfl, rfl, rfl, rfl, rfl, rfl, rfl, rfl, rfl, rfl, rfl, rfl, rfl, rfl, rfl, Z⟩ rfl rfl) rfl rfl) rfl rfl <| Nt <| We ?_ ?_
        ·exact ⟨V rfl, V rfl, V rfl, V rfl, V rfl, V rfl, V rfl, V rfl, V rfl, V rfl, V rfl, V rfl, V rfl, Vj, Vj, V rfl, V rfl, V rfl, V rfl, V rfl, Z⟩
        ·exact ⟨⟨_, rfl, ⟨rfl, rfl, (An rfl)⟩⟩, ⟨_, rfl, ⟨rfl, rfl, (An rfl)⟩⟩, ⟨_, rfl, rfl⟩, ⟨_, rfl, rfl⟩, Z⟩
       ·intro e hdn he hdp
        obtain ⟨h1, h2, h0, -, -, h3, h4, h5, h6, h7, h8, h9, h10, h11, h12, -⟩ := (show e 1 = true ∧ e 2 = true ∧ e 0 = true ∧ e 1 = true ∧ e 2 = true ∧ e 3 = true ∧ e 4 = true ∧ e 5 = true ∧ e 6 = true ∧ e 7 = true ∧ e 8 = true ∧ e 9 = true ∧ e 10 = true ∧ e 11 = true ∧ e 12 = true ∧ True from hdp)
        have h15 : e 15 = false := fls he fun q => by obtain ⟨r14, -, -, -, -, -, -, -, -, -, -, -, -, -, -, -, -⟩ := (show e 14 = true ∧ e 12 = true ∧ e 12 = true ∧ e 0 = true ∧ e 1 = true ∧ e 2 = true ∧ e 3 = true ∧ e 4 = true ∧ e 5 = true ∧ e 6 = true ∧ e 7 = true ∧ e 8 = true ∧ e 9 = true ∧ e 10 = true ∧ e 11 = true ∧ e 12 = true ∧ True from hdn 15 q); obtain ⟨r13, -, -, -, -, -, -, -, -, -, -, -, -, -, -⟩ := (show e 13 = true ∧ e 0 = true ∧ e 1 = true ∧ e 2 = true ∧ e 3 = true ∧ e 4 = true ∧ e 5 = true ∧ e 6 = true ∧ e 7 = true ∧ e 8 = true ∧ e 9 = true ∧ e 10 = true ∧ e 11 = true ∧ e 12 = true ∧ True from hdn 14 r14); exact r13
        simp only [setE, h0, h1, h2, h3, h4, h5, h6, h7, h8, h9, h10, h11, h12, he, h15, cj_t, cj_f, cjn_t, cjn_f, cb_t, cb_f]
        refine U (q_idxU (V rfl) rfl (V rfl) ts22 te22 (by omega) (by first | omega | (simp only [List.length_set]; omega))) <| Nt <| We ?_ ?_
        ·exact ⟨V rfl, V rfl, V rfl, V rfl, V rfl, V rfl, V rfl, V rfl, V rfl, V rfl, V rfl, V rfl, V rfl, V rfl, V rfl, V rfl, V rfl, V rfl, V rfl, V rfl, Z⟩
        ·exact ⟨⟨_, rfl, ⟨rfl, rfl, (An rfl)⟩⟩, ⟨_, rfl, ⟨rfl, rfl, (An rfl)⟩⟩, ⟨_, rfl, rfl⟩, ⟨_, rfl, rfl⟩, Z⟩
       ·intro e hdn he hdp
        obtain ⟨h13, h0, h1, h2, h3, h4, h5, h6, h7, h8, h9, h10, h11, h12, -⟩ := (show e 13 = true ∧ e 0 = true ∧ e 1 = true ∧ e 2 = true ∧ e 3 = true ∧ e 4 = true ∧ e 5 = true ∧ e 6 = true ∧ e 7 = true ∧ e 8 = true ∧ e 9 = true ∧ e 10 = true ∧ e 11 = true ∧ e 12 = true ∧ True from hdp)
        have h15 : e 15 = false := fls he fun q => by obtain ⟨r14, -, -, -, -, -, -, -, -, -, -, -, -, -, -, -, -⟩ := (show e 14 = true ∧ e 12 = true ∧ e 12 = true ∧ e 0 = true ∧ e 1 = true ∧ e 2 = true ∧ e 3 = true ∧ e 4 = true ∧ e 5 = true ∧ e 6 = true ∧ e 7 = true ∧ e 8 = true ∧ e 9 = true ∧ e 10 = true ∧ e 11 = true ∧ e 12 = true ∧ True from hdn 15 q); exact r14
        simp only [setE, h0, h1, h2, h3, h4, h5, h6, h7, h8, h9, h10, h11, h12, h13, he, h15, cj_t, cj_f, cjn_t, cjn_f, cb_t, cb_f]
        refine U (FlO _ _ (V rfl) Un61 rfl 0 Sz33) <| Nt <| We ?_ ?_
        ·exact ⟨V rfl, V rfl, V rfl, V rfl, V rfl, V rfl, V rfl, V rfl, V rfl, V rfl, V rfl, V rfl, V rfl, V rfl, V rfl, V rfl, V rfl, V rfl, V rfl, V rfl, Z⟩
        ·exact ⟨⟨_, rfl, ⟨rfl, rfl, (An rfl)⟩⟩, ⟨_, rfl, ⟨rfl, rfl, (An rfl)⟩⟩, ⟨_, rfl, rfl⟩, ⟨_, rfl, rfl⟩, Z⟩
       ·intro e hdn he hdp
        obtain ⟨h14, h12, -, h0, h1, h2, h3, h4, h5, h6, h7, h8, h9, h10, h11, -, -⟩ := (show e 14 = true ∧ e 12 = true ∧ e 12 = true ∧ e 0 = true ∧ e 1 = true ∧ e 2 = true ∧ e 3 = true ∧ e 4 = true ∧ e 5 = true ∧ e 6 = true ∧ e 7 = true ∧ e 8 = true ∧ e 9 = true ∧ e 10 = true ∧ e 11 = true ∧ e 12 = true ∧ True from hdp)
        obtain ⟨h13, -, -, -, -, -, -, -, -, -, -, -, -, -, -⟩ := (show e 13 = true ∧ e 0 = true ∧ e 1 = true ∧ e 2 = true ∧ e 3 = true ∧ e 4 = true ∧ e 5 = true ∧ e 6 = true ∧ e 7 = true ∧ e 8 = true ∧ e 9 = true ∧ e 10 = true ∧ e 11 = true ∧ e 12 = true ∧ True from hdn 14 h14)
        simp only [setE, h0, h1, h2, h3, h4, h5, h6, h7, h8, h9, h10, h11, h12, h13, h14, he, cj_t, cj_f, cjn_t, cjn_f, cb_t, cb_f]
        refine t_stH (V rfl) rfl (V rfl) (one_own rfl) Sz33 (by decide) (.inl rfl) <| Nt <| We ?_ ?_
        ·exact ⟨V rfl, V rfl, V rfl, V rfl, V rfl, V rfl, V rfl, V rfl, V rfl, V rfl, V rfl, V rfl, V rfl, V rfl, V rfl, V rfl, V rfl, V rfl, V rfl, V rfl, Z⟩
        ·exact ⟨⟨_, rfl, ⟨rfl, rfl, (An rfl)⟩⟩, ⟨_, rfl, ⟨rfl, rfl, (An rfl)⟩⟩, ⟨_, rfl, rfl⟩, ⟨_, rfl, rfl⟩, Z⟩
       ·intro e he
        have h0 := he 0 (by decide)
        have h1 := he 1 (by decide)
        have h2 := he 2 (by decide)
        have h3 := he 3 (by decide)
        have h4 := he 4 (by decide)
        have h5 := he 5 (by decide)
        have h6 := he 6 (by decide)
        have h7 := he 7 (by decide)
        have h8 := he 8 (by decide)
        have h9 := he 9 (by decide)
        have h10 := he 10 (by decide)
        have h11 := he 11 (by decide)
        have h12 := he 12 (by decide)
        have h13 := he 13 (by decide)
        have h14 := he 14 (by decide)
        have h15 := he 15 (by decide)
        show Weak _ ⟨[(102, cj (e 0) (SV.bp 1 0)), (103, cj (e 1) (SV.own 9)), (104, cj (e 2) (iv (p.pl))), (105, cj (e 3) (SV.bp 1 0)), (106, cj (e 4) (SV.own 9)), (107, cj (e 5) (iv (p.pl))), (108, cj (e 6) (SV.oe 9 8 (Int.toNat p.pl) 0)), (109, cj (e 7) (SV.oe 9 8 (Int.toNat p.pl) 5)), (110, cj (e 8) (SV.own 10)), (111, cj (e 9) (iv (idxI (Nd.kids ((outSt l c.pl).getD (Int.toNat p.pl) default)) ((ah.getD 0 default).pl)))), (112, cj (e 10) (iv (c.pl))), (113, cj (e 11) (inRow ([c.pl]))), (114, cj (e 12) (SV.own 11)), (115, cj (e 13) (SV.oe 9 8 (Int.toNat p.pl) 0)), (116, cj (e 14) (SV.oe 9 8 (Int.toNat p.pl) 5)), (4, SV.bp 1 0), (8, SV.bp 4 0), (11, iv (p.pl)), (12, iv (c.pl)), (13, iv (idxI (Nd.kids ((outSt l c.pl).getD (Int.toNat p.pl) default)) ((ah.getD 0 default).pl)))], (cb (e 12) (cb (e 15) [(1, Own.box 1 (fun zt => SV.renm (rn [(1000, 1), (1001, 8), (0, 9)]) ((cmpG [SV.own 0]) zt)) 24), (4, Own.box 1 (cmpG [SV.v (Value.slice none 0 0)]) 24), (9, urowOf ndCell 8 default (outSt l c.pl) 61 5 Nd.kids inCell 1 0 3 l.length (some (Int.toNat p.pl, SV.own 11))), (11, ownOf inCell 1 0 ((Nd.kids ((outSt l c.pl).getD (Int.toNat p.pl) default)).take (Int.toNat (idxI (Nd.kids ((outSt l c.pl).getD (Int.toNat p.pl) default)) ((ah.getD 0 default).pl))) ++ ([c.pl]) ++ (Nd.kids ((outSt l c.pl).getD (Int.toNat p.pl) default)).drop (Int.toNat (idxI (Nd.kids ((outSt l c.pl).getD (Int.toNat p.pl) default)) ((ah.getD 0 default).pl)))) 3)] [(1, Own.box 1 (fun zt => SV.renm (rn [(1000, 1), (1001, 8), (0, 9)]) ((cmpG [SV.own 0]) zt)) 24), (4, Own.box 1 (cmpG [SV.v (Value.slice none 0 0)]) 24), (9, urowOf ndCell 8 default (outSt l c.pl) 61 5 Nd.kids inCell 1 0 3 l.length (some (Int.toNat p.pl, SV.own 10))), (11, ownOf inCell 1 0 ((Nd.kids ((outSt l c.pl).getD (Int.toNat p.pl) default)).take (Int.toNat (idxI (Nd.kids ((outSt l c.pl).getD (Int.toNat p.pl) default)) ((ah.getD 0 default).pl))) ++ ([c.pl]) ++ (Nd.kids ((outSt l c.pl).getD (Int.toNat p.pl) default)).drop (Int.toNat (idxI (Nd.kids ((outSt l c.pl).getD (Int.toNat p.pl) default)) ((ah.getD 0 default).pl)))) 3)]) (cb (e 15) [] [(1, Own.box 1 (fun zt => SV.renm (rn [(1000, 1), (1001, 8), (0, 9)]) ((cmpG [SV.own 0]) zt)) 24), (4, Own.box 1 (cmpG [SV.v (Value.slice none 0 0)]) 24), (9, urowOf ndCell 8 default (outSt l c.pl) 61 5 Nd.kids inCell 1 0 3 l.length (some (Int.toNat p.pl, SV.own 10))), (10, ownOf inCell 1 0 (Nd.kids ((outSt l c.pl).getD (Int.toNat p.pl) default)) 3)]))⟩ _
        simp only [h0, h1, h2, h3, h4, h5, h6, h7, h8, h9, h10, h11, h12, h13, h14, h15]
        show Weak _ ⟨[(102, SV.bp 1 0), (103, SV.own 9), (104, iv (p.pl)), (105, SV.bp 1 0), (106, SV.own 9), (107, iv (p.pl)), (108, SV.oe 9 8 (Int.toNat p.pl) 0), (109, SV.oe 9 8 (Int.toNat p.pl) 5), (110, SV.own 10), (111, iv (idxI (Nd.kids ((outSt l c.pl).getD (Int.toNat p.pl) default)) ((ah.getD 0 default).pl))), (112, iv (c.pl)), (113, inRow ([c.pl])), (114, SV.own 11), (115, SV.oe 9 8 (Int.toNat p.pl) 0), (116, SV.oe 9 8 (Int.toNat p.pl) 5), (4, SV.bp 1 0), (8, SV.bp 4 0), (11, iv (p.pl)), (12, iv (c.pl)), (13, iv (idxI (Nd.kids ((outSt l c.pl).getD (Int.toNat p.pl) default)) ((ah.getD 0 default).pl)))], [(1, Own.box 1 (fun zt => SV.renm (rn [(1000, 1), (1001, 8), (0, 9)]) ((cmpG [SV.own 0]) zt)) 24), (4, Own.box 1 (cmpG [SV.v (Value.slice none 0 0)]) 24), (9, urowOf ndCell 8 default (outSt l c.pl) 61 5 Nd.kids inCell 1 0 3 l.length (some (Int.toNat p.pl, SV.own 11))), (11, ownOf inCell 1 0 ((Nd.kids ((outSt l c.pl).getD (Int.toNat p.pl) default)).take (Int.toNat (idxI (Nd.kids ((outSt l c.pl).getD (Int.toNat p.pl) default)) ((ah.getD 0 default).pl))) ++ ([c.pl]) ++ (Nd.kids ((outSt l c.pl).getD (Int.toNat p.pl) default)).drop (Int.toNat (idxI (Nd.kids ((outSt l c.pl).getD (Int.toNat p.pl) default)) ((ah.getD 0 default).pl)))) 3)]⟩ _
        refine We ?_ ?_
        ·exact ⟨V rfl, V rfl, V rfl, V rfl, V rfl, V rfl, V rfl, V rfl, V rfl, V rfl, V rfl, V rfl, V rfl, V rfl, V rfl, V rfl, V rfl, V rfl, V rfl, V rfl, Z⟩
        ·exact ⟨⟨_, rfl, ⟨rfl, rfl, (An rfl)⟩⟩, ⟨_, rfl, ⟨rfl, rfl, (An rfl)⟩⟩, ⟨_, rfl, rfl⟩, ⟨_, rfl, rfl⟩, Z⟩
       exact Sq <| Tc (turn_joinT 9 (Int.toNat p.pl) 11 l.length ({ ((outSt l c.pl).getD (Int.toNat p.pl) default) with kids := (Nd.kids ((outSt l c.pl).getD (Int.toNat p.pl) default)).take (Int.toNat (idxI (Nd.kids ((outSt l c.pl).getD (Int.toNat p.pl) default)) ((ah.getD 0 default).pl))) ++ ([c.pl]) ++ (Nd.kids ((outSt l c.pl).getD (Int.toNat p.pl) default)).drop (Int.toNat (idxI (Nd.kids ((outSt l c.pl).getD (Int.toNat p.pl) default)) ((ah.getD 0 default).pl))) }) rfl rfl rfl (by first | omega | (simp only [List.length_set]; omega)) (by omega) (by rw [if_pos (by omega)]) rfl rfl (fun t ht hne => match t, ht, hne with | 0, _, _ => rfl | 1, _, _ => rfl | 2, _, _ => rfl | 3, _, _ => rfl | 4, _, _ => rfl | 5, _, hne => absurd rfl hne | 6, _, _ => rfl | 7, _, _ => rfl) rfl) <| Rt <| U (FlB _ _ (V rfl) Un24 rfl 0 Sz22) <| U (LdB (V rfl) rfl Ga22 (by decide)) <| U (Mv (V rfl)) <| U (Mv (V rfl)) <| U (q_idxU (V rfl) rfl (V rfl) ts22 te22 (by omega) (by first | omega | (simp only [List.length_set]; omega))) <| U (FlO _ _ (V rfl) Un61 rfl 0 Sz3) <| t_stUT ({ (((outSt l c.pl).set (Int.toNat p.pl) ({ ((outSt l c.pl).getD (Int.toNat p.pl) default) with kids := (Nd.kids ((outSt l c.pl).getD (Int.toNat p.pl) default)).take (Int.toNat (idxI (Nd.kids ((outSt l c.pl).getD (Int.toNat p.pl) default)) ((ah.getD 0 default).pl))) ++ ([c.pl]) ++ (Nd.kids ((outSt l c.pl).getD (Int.toNat p.pl) default)).drop (Int.toNat (idxI (Nd.kids ((outSt l c.pl).getD (Int.toNat p.pl) default)) ((ah.getD 0 default).pl))) })).getD (Int.toNat c.pl) default) with par := p.pl }) (V rfl) rfl (V rfl) rfl rfl Sz3 (by decide) (by decide) (by first | omega | (simp only [List.length_set]; omega)) rfl (fun t ht hne => match t, ht, hne with | 0, _, _ => rfl | 1, _, _ => rfl | 2, _, _ => rfl | 3, _, _ => rfl | 4, _, hne => absurd rfl hne | 5, _, _ => rfl | 6, _, _ => rfl | 7, _, _ => rfl) rfl <| Nt <| Sq <| Rt <| U (LBA (V rfl) rfl Ga24 Sz24 (by decide)) <| StA (V rfl) rfl (V rfl) Sz24 <| U (As K) <| Nt <| Tc (turn_uAT 9 rfl rfl (fun _ => rfl)) <| FzC 9 rfl <| Rx <| RR2 rfl (rv_aggI (g' := stG (((outSt l c.pl).set (Int.toNat p.pl) ({ ((outSt l c.pl).getD (Int.toNat p.pl) default) with kids := (Nd.kids ((outSt l c.pl).getD (Int.toNat p.pl) default)).take (Int.toNat (idxI (Nd.kids ((outSt l c.pl).getD (Int.toNat p.pl) default)) ((ah.getD 0 default).pl))) ++ ([c.pl]) ++ (Nd.kids ((outSt l c.pl).getD (Int.toNat p.pl) default)).drop (Int.toNat (idxI (Nd.kids ((outSt l c.pl).getD (Int.toNat p.pl) default)) ((ah.getD 0 default).pl))) })).set (Int.toNat c.pl) ({ (((outSt l c.pl).set (Int.toNat p.pl) ({ ((outSt l c.pl).getD (Int.toNat p.pl) default) with kids := (Nd.kids ((outSt l c.pl).getD (Int.toNat p.pl) default)).take (Int.toNat (idxI (Nd.kids ((outSt l c.pl).getD (Int.toNat p.pl) default)) ((ah.getD 0 default).pl))) ++ ([c.pl]) ++ (Nd.kids ((outSt l c.pl).getD (Int.toNat p.pl) default)).drop (Int.toNat (idxI (Nd.kids ((outSt l c.pl).getD (Int.toNat p.pl) default)) ((ah.getD 0 default).pl))) })).getD (Int.toNat c.pl) default) with par := p.pl }))) (rv_cell (V rfl) rfl Ga24 Sz24) ⟨Z, Ir⟩) (rv_tmp (V rfl)) rfl rfl (by show sv2 (SV.agg 1 (stG (((outSt l c.pl).set (Int.toNat p.pl) ({ ((outSt l c.pl).getD (Int.toNat p.pl) default) with kids := (Nd.kids ((outSt l c.pl).getD (Int.toNat p.pl) default)).take (Int.toNat (idxI (Nd.kids ((outSt l c.pl).getD (Int.toNat p.pl) default)) ((ah.getD 0 default).pl))) ++ ([c.pl]) ++ (Nd.kids ((outSt l c.pl).getD (Int.toNat p.pl) default)).drop (Int.toNat (idxI (Nd.kids ((outSt l c.pl).getD (Int.toNat p.pl) default)) ((ah.getD 0 default).pl))) })).set (Int.toNat c.pl) ({ (((outSt l c.pl).set (Int.toNat p.pl) ({ ((outSt l c.pl).getD (Int.toNat p.pl) default) with kids := (Nd.kids ((outSt l c.pl).getD (Int.toNat p.pl) default)).take (Int.toNat (idxI (Nd.kids ((outSt l c.pl).getD (Int.toNat p.pl) default)) ((ah.getD 0 default).pl))) ++ ([c.pl]) ++ (Nd.kids ((outSt l c.pl).getD (Int.toNat p.pl) default)).drop (Int.toNat (idxI (Nd.kids ((outSt l c.pl).getD (Int.toNat p.pl) default)) ((ah.getD 0 default).pl))) })).getD (Int.toNat c.pl) default) with par := p.pl })))) (iv (0)) = sv2 (SV.agg 1 (stG (insSt l p c ah).1)) (iv (insSt l p c ah).2); rw [ins_6 (by omega) hc2s hq3 hq4 hq5, insPos, if_pos hah]; rfl)
      ·have hc6s := hc6; try simp only [BL] at hc6s
       refine Sk <| Sq <| c_rd (fun e => ⟨[(102, cj (e 0) (SV.bp 1 0)), (103, cj (e 1) (SV.own 9)), (104, cj (e 2) (iv (p.pl))), (105, cj (e 3) (SV.bp 1 0)), (106, cj (e 4) (SV.own 9)), (107, cj (e 5) (iv (p.pl))), (108, cj (e 6) (SV.oe 9 8 (Int.toNat p.pl) 0)), (109, cj (e 7) (SV.oe 9 8 (Int.toNat p.pl) 5)), (110, cj (e 8) (SV.own 10)), (111, cj (e 9) (iv (((Nd.kids ((outSt l c.pl).getD (Int.toNat p.pl) default)).length : Int)))), (112, cj (e 10) (iv (c.pl))), (113, cj (e 11) (inRow ([c.pl]))), (114, cj (e 12) (SV.own 12)), (115, cj (e 13) (SV.oe 9 8 (Int.toNat p.pl) 0)), (116, cj (e 14) (SV.oe 9 8 (Int.toNat p.pl) 5)), (4, SV.bp 1 0), (8, SV.bp 4 0), (11, iv (p.pl)), (12, iv (c.pl)), (13, iv (((Nd.kids ((outSt l c.pl).getD (Int.toNat p.pl) default)).length : Int)))], (cb (e 12) (cb (e 15) [(1, Own.box 1 (fun zt => SV.renm (rn [(1000, 1), (1001, 8), (0, 9)]) ((cmpG [SV.own 0]) zt)) 24), (4, Own.box 1 (cmpG [SV.v (Value.slice none 0 0)]) 24), (9, urowOf ndCell 8 default (outSt l c.pl) 61 5 Nd.kids inCell 1 0 3 l.length (some (Int.toNat p.pl, SV.own 12))), (12, ownOf inCell 1 0 ((Nd.kids ((outSt l c.pl).getD (Int.toNat p.pl) default)).take ((Nd.kids ((outSt l c.pl).getD (Int.toNat p.pl) default)).length) ++ ([c.pl]) ++ (Nd.kids ((outSt l c.pl).getD (Int.toNat p.pl) default)).drop ((Nd.kids ((outSt l c.pl).getD (Int.toNat p.pl) default)).length)) 3)] [(1, Own.box 1 (fun zt => SV.renm (rn [(1000, 1), (1001, 8), (0, 9)]) ((cmpG [SV.own 0]) zt)) 24), (4, Own.box 1 (cmpG [SV.v (Value.slice none 0 0)]) 24), (9, urowOf ndCell 8 default (outSt l c.pl) 61 5 Nd.kids inCell 1 0 3 l.length (some (Int.toNat p.pl, SV.own 10))), (12, ownOf inCell 1 0 ((Nd.kids ((outSt l c.pl).getD (Int.toNat p.pl) default)).take ((Nd.kids ((outSt l c.pl).getD (Int.toNat p.pl) default)).length) ++ ([c.pl]) ++ (Nd.kids ((outSt l c.pl).getD (Int.toNat p.pl) default)).drop ((Nd.kids ((outSt l c.pl).getD (Int.toNat p.pl) default)).length)) 3)]) (cb (e 15) [] [(1, Own.box 1 (fun zt => SV.renm (rn [(1000, 1), (1001, 8), (0, 9)]) ((cmpG [SV.own 0]) zt)) 24), (4, Own.box 1 (cmpG [SV.v (Value.slice none 0 0)]) 24), (9, urowOf ndCell 8 default (outSt l c.pl) 61 5 Nd.kids inCell 1 0 3 l.length (some (Int.toNat p.pl, SV.own 10))), (10, ownOf inCell 1 0 (Nd.kids ((outSt l c.pl).getD (Int.toNat p.pl) default)) 3)]))⟩) ⟨[(102, SV.bp 1 0), (103, SV.own 9), (104, iv (p.pl)), (105, SV.bp 1 0), (106, SV.own 9), (107, iv (p.pl)), (108, SV.oe 9 8 (Int.toNat p.pl) 0), (109, SV.oe 9 8 (Int.toNat p.pl) 5), (110, SV.own 10), (111, iv (((Nd.kids ((outSt l c.pl).getD (Int.toNat p.pl) default)).length : Int))), (112, iv (c.pl)), (113, inRow ([c.pl])), (114, SV.own 12), (115, SV.oe 9 8 (Int.toNat p.pl) 0), (116, SV.oe 9 8 (Int.toNat p.pl) 5), (4, SV.bp 1 0), (8, SV.bp 4 0), (11, iv (p.pl)), (12, iv (c.pl)), (13, iv (((Nd.kids ((outSt l c.pl).getD (Int.toNat p.pl) default)).length : Int)))], [(1, Own.box 1 (fun zt => SV.renm (rn [(1000, 1), (1001, 8), (0, 9)]) ((cmpG [SV.own 0]) zt)) 24), (4, Own.box 1 (cmpG [SV.v (Value.slice none 0 0)]) 24), (9, urowOf ndCell 8 default (outSt l c.pl) 61 5 Nd.kids inCell 1 0 3 l.length (some (Int.toNat p.pl, SV.own 12))), (12, ownOf inCell 1 0 ((Nd.kids ((outSt l c.pl).getD (Int.toNat p.pl) default)).take ((Nd.kids ((outSt l c.pl).getD (Int.toNat p.pl) default)).length) ++ ([c.pl]) ++ (Nd.kids ((outSt l c.pl).getD (Int.toNat p.pl) default)).drop ((Nd.kids ((outSt l c.pl).getD (Int.toNat p.pl) default)).length)) 3)]⟩ (by kernel_rfl) (by kernel_rfl) ?_ ⟨?_, ?_, ?_, ?_, ?_, ?_, ?_, ?_, ?_, ?_, ?_, ?_, ?_, ?_, ?_, ?_, Z⟩ ?_ ?_
       ·show Weak _ _ ⟨[(102, SV.junk), (103, SV.junk), (104, SV.junk), (105, SV.junk), (106, SV.junk), (107, SV.junk), (108, SV.junk), (109, SV.junk), (110, SV.junk), (111, SV.junk), (112, SV.junk), (113, SV.junk), (114, SV.junk), (115, SV.junk), (116, SV.junk), (4, SV.bp 1 0), (8, SV.bp 4 0), (11, iv (p.pl)), (12, iv (c.pl)), (13, iv (((Nd.kids ((outSt l c.pl).getD (Int.toNat p.pl) default)).length : Int)))], [(1, Own.box 1 (fun zt => SV.renm (rn [(1000, 1), (1001, 8), (0, 9)]) ((cmpG [SV.own 0]) zt)) 24), (4, Own.box 1 (cmpG [SV.v (Value.slice none 0 0)]) 24), (9, urowOf ndCell 8 default (outSt l c.pl) 61 5 Nd.kids inCell 1 0 3 l.length (some (Int.toNat p.pl, SV.own 10))), (10, ownOf inCell 1 0 (Nd.kids ((outSt l c.pl).getD (Int.toNat p.pl) default)) 3)]⟩
        refine We ?_ ?_
        ·exact ⟨Vj, Vj, Vj, Vj, Vj, Vj, Vj, Vj, Vj, Vj, Vj, Vj, Vj, Vj, Vj, V rfl, V rfl, V rfl, V rfl, V rfl, Z⟩
        ·exact ⟨⟨_, rfl, ⟨rfl, rfl, (An rfl)⟩⟩, ⟨_, rfl, ⟨rfl, rfl, (An rfl)⟩⟩, ⟨_, rfl, rfl⟩, ⟨_, rfl, rfl⟩, Z⟩
       ·intro e hdn he hdp
        have h15 : e 15 = false := fls he fun q => by obtain ⟨r14, -, -, -, -, -, -, -, -, -, -, -, -, -, -, -, -⟩ := (show e 14 = true ∧ e 12 = true ∧ e 12 = true ∧ e 0 = true ∧ e 1 = true ∧ e 2 = true ∧ e 3 = true ∧ e 4 = true ∧ e 5 = true ∧ e 6 = true ∧ e 7 = true ∧ e 8 = true ∧ e 9 = true ∧ e 10 = true ∧ e 11 = true ∧ e 12 = true ∧ True from hdn 15 q); obtain ⟨r13, -, -, -, -, -, -, -, -, -, -, -, -, -, -⟩ := (show e 13 = true ∧ e 0 = true ∧ e 1 = true ∧ e 2 = true ∧ e 3 = true ∧ e 4 = true ∧ e 5 = true ∧ e 6 = true ∧ e 7 = true ∧ e 8 = true ∧ e 9 = true ∧ e 10 = true ∧ e 11 = true ∧ e 12 = true ∧ True from hdn 14 r14); obtain ⟨r1, -, -, -, -, -, -, -, -, -, -, -, -, -, -, -⟩ := (show e 1 = true ∧ e 2 = true ∧ e 0 = true ∧ e 1 = true ∧ e 2 = true ∧ e 3 = true ∧ e 4 = true ∧ e 5 = true ∧ e 6 = true ∧ e 7 = true ∧ e 8 = true ∧ e 9 = true ∧ e 10 = true ∧ e 11 = true ∧ e 12 = true ∧ True from hdn 13 r13); obtain ⟨r0, -⟩ := (show e 0 = true ∧ True from hdn 1 r1); exact r0
        simp only [setE, he, h15, cj_t, cj_f, cjn_t, cjn_f, cb_t, cb_f]
        exact U (FlB _ _ (V rfl) Un24 rfl 0 Sz22) <| Nt <| weakS ⟨V rfl, V rfl, V rfl, V rfl, V rfl, V rfl, V rfl, V rfl, V rfl, V rfl, V rfl, V rfl, V rfl, V rfl, V rfl, V rfl, V rfl, V rfl, V rfl, V rfl, Z⟩
       ·intro e hdn he hdp
        obtain ⟨h0, -⟩ := (show e 0 = true ∧ True from hdp)
        have h15 : e 15 = false := fls he fun q => by obtain ⟨r14, -, -, -, -, -, -, -, -, -, -, -, -, -, -, -, -⟩ := (show e 14 = true ∧ e 12 = true ∧ e 12 = true ∧ e 0 = true ∧ e 1 = true ∧ e 2 = true ∧ e 3 = true ∧ e 4 = true ∧ e 5 = true ∧ e 6 = true ∧ e 7 = true ∧ e 8 = true ∧ e 9 = true ∧ e 10 = true ∧ e 11 = true ∧ e 12 = true ∧ True from hdn 15 q); obtain ⟨r13, -, -, -, -, -, -, -, -, -, -, -, -, -, -⟩ := (show e 13 = true ∧ e 0 = true ∧ e 1 = true ∧ e 2 = true ∧ e 3 = true ∧ e 4 = true ∧ e 5 = true ∧ e 6 = true ∧ e 7 = true ∧ e 8 = true ∧ e 9 = true ∧ e 10 = true ∧ e 11 = true ∧ e 12 = true ∧ True from hdn 14 r14); obtain ⟨r1, -, -, -, -, -, -, -, -, -, -, -, -, -, -, -⟩ := (show e 1 = true ∧ e 2 = true ∧ e 0 = true ∧ e 1 = true ∧ e 2 = true ∧ e 3 = true ∧ e 4 = true ∧ e 5 = true ∧ e 6 = true ∧ e 7 = true ∧ e 8 = true ∧ e 9 = true ∧ e 10 = true ∧ e 11 = true ∧ e 12 = true ∧ True from hdn 13 r13); exact r1
        cases hu12 : e 12
        ·simp only [setE, h0, he, h15, hu12, cj_t, cj_f, cjn_t, cjn_f, cb_t, cb_f]
         refine U (LdB (V rfl) rfl Ga22 (by decide)) <| Nt <| We ?_ ?_
         ·exact ⟨V rfl, V rfl, V rfl, V rfl, V rfl, V rfl, V rfl, V rfl, V rfl, V rfl, V rfl, V rfl, Vj, V rfl, V rfl, V rfl, V rfl, V rfl, V rfl, V rfl, Z⟩
         ·exact ⟨⟨_, rfl, ⟨rfl, rfl, (An rfl)⟩⟩, ⟨_, rfl, ⟨rfl, rfl, (An rfl)⟩⟩, ⟨_, rfl, rfl⟩, ⟨_, rfl, rfl⟩, Z⟩
        ·simp only [setE, h0, he, h15, hu12, cj_t, cj_f, cjn_t, cjn_f, cb_t, cb_f]
         refine U (LdB (V rfl) rfl Ga22 (by decide)) <| Nt <| We ?_ ?_
         ·exact ⟨V rfl, V rfl, V rfl, V rfl, V rfl, V rfl, V rfl, V rfl, V rfl, V rfl, V rfl, V rfl, V rfl, V rfl, V rfl, V rfl, V rfl, V rfl, V rfl, V rfl, Z⟩
         ·exact ⟨⟨_, rfl, ⟨rfl, rfl, (An rfl)⟩⟩, ⟨_, rfl, ⟨rfl, rfl, (An rfl)⟩⟩, ⟨_, rfl, rfl⟩, ⟨_, rfl, rfl⟩, Z⟩
       ·intro e hdn he hdp
        have h15 : e 15 = false := fls he fun q => by obtain ⟨r14, -, -, -, -, -, -, -, -, -, -, -, -, -, -, -, -⟩ := (show e 14 = true ∧ e 12 = true ∧ e 12 = true ∧ e 0 = true ∧ e 1 = true ∧ e 2 = true ∧ e 3 = true ∧ e 4 = true ∧ e 5 = true ∧ e 6 = true ∧ e 7 = true ∧ e 8 = true ∧ e 9 = true ∧ e 10 = true ∧ e 11 = true ∧ e 12 = true ∧ True from hdn 15 q); obtain ⟨r13, -, -, -, -, -, -, -, -, -, -, -, -, -, -⟩ := (show e 13 = true ∧ e 0 = true ∧ e 1 = true ∧ e 2 = true ∧ e 3 = true ∧ e 4 = true ∧ e 5 = true ∧ e 6 = true ∧ e 7 = true ∧ e 8 = true ∧ e 9 = true ∧ e 10 = true ∧ e 11 = true ∧ e 12 = true ∧ True from hdn 14 r14); obtain ⟨-, r2, -, -, -, -, -, -, -, -, -, -, -, -, -, -⟩ := (show e 1 = true ∧ e 2 = true ∧ e 0 = true ∧ e 1 = true ∧ e 2 = true ∧ e 3 = true ∧ e 4 = true ∧ e 5 = true ∧ e 6 = true ∧ e 7 = true ∧ e 8 = true ∧ e 9 = true ∧ e 10 = true ∧ e 11 = true ∧ e 12 = true ∧ True from hdn 13 r13); exact r2
        simp only [setE, he, h15, cj_t, cj_f, cjn_t, cjn_f, cb_t, cb_f]
        exact U (Mv (V rfl)) <| Nt <| weakS ⟨V rfl, V rfl, V rfl, V rfl, V rfl, V rfl, V rfl, V rfl, V rfl, V rfl, V rfl, V rfl, V rfl, V rfl, V rfl, V rfl, V rfl, V rfl, V rfl, V rfl, Z⟩
       ·intro e hdn he hdp
        have h12 : e 12 = false := fls he fun q => by obtain ⟨r8, -, -, -⟩ := (show e 8 = true ∧ e 9 = true ∧ e 11 = true ∧ True from hdn 12 q); obtain ⟨r7, -⟩ := (show e 7 = true ∧ True from hdn 8 r8); obtain ⟨r6, -⟩ := (show e 6 = true ∧ True from hdn 7 r7); obtain ⟨r4, -, -⟩ := (show e 4 = true ∧ e 5 = true ∧ True from hdn 6 r6); obtain ⟨r3, -⟩ := (show e 3 = true ∧ True from hdn 4 r4); exact r3
        have h15 : e 15 = false := fls he fun q => by obtain ⟨r14, -, -, -, -, -, -, -, -, -, -, -, -, -, -, -, -⟩ := (show e 14 = true ∧ e 12 = true ∧ e 12 = true ∧ e 0 = true ∧ e 1 = true ∧ e 2 = true ∧ e 3 = true ∧ e 4 = true ∧ e 5 = true ∧ e 6 = true ∧ e 7 = true ∧ e 8 = true ∧ e 9 = true ∧ e 10 = true ∧ e 11 = true ∧ e 12 = true ∧ True from hdn 15 q); obtain ⟨r13, -, -, -, -, -, -, -, -, -, -, -, -, -, -⟩ := (show e 13 = true ∧ e 0 = true ∧ e 1 = true ∧ e 2 = true ∧ e 3 = true ∧ e 4 = true ∧ e 5 = true ∧ e 6 = true ∧ e 7 = true ∧ e 8 = true ∧ e 9 = true ∧ e 10 = true ∧ e 11 = true ∧ e 12 = true ∧ True from hdn 14 r14); obtain ⟨-, -, -, -, -, -, -, -, -, -, -, -, -, -, r12, -⟩ := (show e 1 = true ∧ e 2 = true ∧ e 0 = true ∧ e 1 = true ∧ e 2 = true ∧ e 3 = true ∧ e 4 = true ∧ e 5 = true ∧ e 6 = true ∧ e 7 = true ∧ e 8 = true ∧ e 9 = true ∧ e 10 = true ∧ e 11 = true ∧ e 12 = true ∧ True from hdn 13 r13); obtain ⟨r8, -, -, -⟩ := (show e 8 = true ∧ e 9 = true ∧ e 11 = true ∧ True from hdn 12 r12); obtain ⟨r7, -⟩ := (show e 7 = true ∧ True from hdn 8 r8); obtain ⟨r6, -⟩ := (show e 6 = true ∧ True from hdn 7 r7); obtain ⟨r4, -, -⟩ := (show e 4 = true ∧ e 5 = true ∧ True from hdn 6 r6); obtain ⟨r3, -⟩ := (show e 3 = true ∧ True from hdn 4 r4); exact r3
        simp only [setE, he, h12, h15, cj_t, cj_f, cjn_t, cjn_f, cb_t, cb_f]
        refine U (FlB _ _ (V rfl) Un24 rfl 0 Sz22) <| Nt <| We ?_ ?_
        ·exact ⟨V rfl, V rfl, V rfl, V rfl, V rfl, V rfl, V rfl, V rfl, V rfl, V rfl, V rfl, V rfl, Vj, V rfl, V rfl, V rfl, V rfl, V rfl, V rfl, V rfl, Z⟩
        ·exact ⟨⟨_, rfl, ⟨rfl, rfl, (An rfl)⟩⟩, ⟨_, rfl, ⟨rfl, rfl, (An rfl)⟩⟩, ⟨_, rfl, rfl⟩, ⟨_, rfl, rfl⟩, Z⟩
       ·intro e hdn he hdp
        obtain ⟨h3, -⟩ := (show e 3 = true ∧ True from hdp)
        have h12 : e 12 = false := fls he fun q => by obtain ⟨r8, -, -, -⟩ := (show e 8 = true ∧ e 9 = true ∧ e 11 = true ∧ True from hdn 12 q); obtain ⟨r7, -⟩ := (show e 7 = true ∧ True from hdn 8 r8); obtain ⟨r6, -⟩ := (show e 6 = true ∧ True from hdn 7 r7); obtain ⟨r4, -, -⟩ := (show e 4 = true ∧ e 5 = true ∧ True from hdn 6 r6); exact r4
        have h15 : e 15 = false := fls he fun q => by obtain ⟨r14, -, -, -, -, -, -, -, -, -, -, -, -, -, -, -, -⟩ := (show e 14 = true ∧ e 12 = true ∧ e 12 = true ∧ e 0 = true ∧ e 1 = true ∧ e 2 = true ∧ e 3 = true ∧ e 4 = true ∧ e 5 = true ∧ e 6 = true ∧ e 7 = true ∧ e 8 = true ∧ e 9 = true ∧ e 10 = true ∧ e 11 = true ∧ e 12 = true ∧ True from hdn 15 q); obtain ⟨r13, -, -, -, -, -, -, -, -, -, -, -, -, -, -⟩ := (show e 13 = true ∧ e 0 = true ∧ e 1 = true ∧ e 2 = true ∧ e 3 = true ∧ e 4 = true ∧ e 5 = true ∧ e 6 = true ∧ e 7 = true ∧ e 8 = true ∧ e 9 = true ∧ e 10 = true ∧ e 11 = true ∧ e 12 = true ∧ True from hdn 14 r14); obtain ⟨-, -, -, -, -, -, -, -, -, -, -, -, -, -, r12, -⟩ := (show e 1 = true ∧ e 2 = true ∧ e 0 = true ∧ e 1 = true ∧ e 2 = true ∧ e 3 = true ∧ e 4 = true ∧ e 5 = true ∧ e 6 = true ∧ e 7 = true ∧ e 8 = true ∧ e 9 = true ∧ e 10 = true ∧ e 11 = true ∧ e 12 = true ∧ True from hdn 13 r13); obtain ⟨r8, -, -, -⟩ := (show e 8 = true ∧ e 9 = true ∧ e 11 = true ∧ True from hdn 12 r12); obtain ⟨r7, -⟩ := (show e 7 = true ∧ True from hdn 8 r8); obtain ⟨r6, -⟩ := (show e 6 = true ∧ True from hdn 7 r7); obtain ⟨r4, -, -⟩ := (show e 4 = true ∧ e 5 = true ∧ True from hdn 6 r6); exact r4
        simp only [setE, h3, he, h12, h15, cj_t, cj_f, cjn_t, cjn_f, cb_t, cb_f]
        refine U (LdB (V rfl) rfl Ga22 (by decide)) <| Nt <| We ?_ ?_
        ·exact ⟨V rfl, V rfl, V rfl, V rfl, V rfl, V rfl, V rfl, V rfl, V rfl, V rfl, V rfl, V rfl, Vj, V rfl, V rfl, V rfl, V rfl, V rfl, V rfl, V rfl, Z⟩
        ·exact ⟨⟨_, rfl, ⟨rfl, rfl, (An rfl)⟩⟩, ⟨_, rfl, ⟨rfl, rfl, (An rfl)⟩⟩, ⟨_, rfl, rfl⟩, ⟨_, rfl, rfl⟩, Z⟩
       ·intro e hdn he hdp
        have h12 : e 12 = false := fls he fun q => by obtain ⟨r8, -, -, -⟩ := (show e 8 = true ∧ e 9 = true ∧ e 11 = true ∧ True from hdn 12 q); obtain ⟨r7, -⟩ := (show e 7 = true ∧ True from hdn 8 r8); obtain ⟨r6, -⟩ := (show e 6 = true ∧ True from hdn 7 r7); obtain ⟨-, r5, -⟩ := (show e 4 = true ∧ e 5 = true ∧ True from hdn 6 r6); exact r5
        have h15 : e 15 = false := fls he fun q => by obtain ⟨r14, -, -, -, -, -, -, -, -, -, -, -, -, -, -, -, -⟩ := (show e 14 = true ∧ e 12 = true ∧ e 12 = true ∧ e 0 = true ∧ e 1 = true ∧ e 2 = true ∧ e 3 = true ∧ e 4 = true ∧ e 5 = true ∧ e 6 = true ∧ e 7 = true ∧ e 8 = true ∧ e 9 = true ∧ e 10 = true ∧ e 11 = true ∧ e 12 = true ∧ True from hdn 15 q); obtain ⟨r13, -, -, -, -, -, -, -, -, -, -, -, -, -, -⟩ := (show e 13 = true ∧ e 0 = true ∧ e 1 = true ∧ e 2 = true ∧ e 3 = true ∧ e 4 = true ∧ e 5 = true ∧ e 6 = true ∧ e 7 = true ∧ e 8 = true ∧ e 9 = true ∧ e 10 = true ∧ e 11 = true ∧ e 12 = true ∧ True from hdn 14 r14); obtain ⟨-, -, -, -, -, -, -, -, -, -, -, -, -, -, r12, -⟩ := (show e 1 = true ∧ e 2 = true ∧ e 0 = true ∧ e 1 = true ∧ e 2 = true ∧ e 3 = true ∧ e 4 = true ∧ e 5 = true ∧ e 6 = true ∧ e 7 = true ∧ e 8 = true ∧ e 9 = true ∧ e 10 = true ∧ e 11 = true ∧ e 12 = true ∧ True from hdn 13 r13); obtain ⟨r8, -, -, -⟩ := (show e 8 = true ∧ e 9 = true ∧ e 11 = true ∧ True from hdn 12 r12); obtain ⟨r7, -⟩ := (show e 7 = true ∧ True from hdn 8 r8); obtain ⟨r6, -⟩ := (show e 6 = true ∧ True from hdn 7 r7); obtain ⟨-, r5, -⟩ := (show e 4 = true ∧ e 5 = true ∧ True from hdn 6 r6); exact r5
        simp only [setE, he, h12, h15, cj_t, cj_f, cjn_t, cjn_f, cb_t, cb_f]
        refine U (Mv (V rfl)) <| Nt <| We ?_ ?_
        ·exact ⟨V rfl, V rfl, V rfl, V rfl, V rfl, V rfl, V rfl, V rfl, V rfl, V rfl, V rfl, V rfl, Vj, V rfl, V rfl, V rfl, V rfl, V rfl, V rfl, V rfl, Z⟩
        ·exact ⟨⟨_, rfl, ⟨rfl, rfl, (An rfl)⟩⟩, ⟨_, rfl, ⟨rfl, rfl, (An rfl)⟩⟩, ⟨_, rfl, rfl⟩, ⟨_, rfl, rfl⟩, Z⟩
       ·intro e hdn he hdp
        obtain ⟨h4, h5, -⟩ := (show e 4 = true ∧ e 5 = true ∧ True from hdp)
        obtain ⟨h3, -⟩ := (show e 3 = true ∧ True from hdn 4 h4)
        have h12 : e 12 = false := fls he fun q => by obtain ⟨r8, -, -, -⟩ := (show e 8 = true ∧ e 9 = true ∧ e 11 = true ∧ True from hdn 12 q); obtain ⟨r7, -⟩ := (show e 7 = true ∧ True from hdn 8 r8); obtain ⟨r6, -⟩ := (show e 6 = true ∧ True from hdn 7 r7); exact r6
        have h15 : e 15 = false := fls he fun q => by obtain ⟨r14, -, -, -, -, -, -, -, -, -, -, -, -, -, -, -, -⟩ := (show e 14 = true ∧ e 12 = true ∧ e 12 = true ∧ e 0 = true ∧ e 1 = true ∧ e 2 = true ∧ e 3 = true ∧ e 4 = true ∧ e 5 = true ∧ e 6 = true ∧ e 7 = true ∧ e 8 = true ∧ e 9 = true ∧ e 10 = true ∧ e 11 = true ∧ e 12 = true ∧ True from hdn 15 q); obtain ⟨r13, -, -, -, -, -, -, -, -, -, -, -, -, -, -⟩ := (show e 13 = true ∧ e 0 = true ∧ e 1 = true ∧ e 2 = true ∧ e 3 = true ∧ e 4 = true ∧ e 5 = true ∧ e 6 = true ∧ e 7 = true ∧ e 8 = true ∧ e 9 = true ∧ e 10 = true ∧ e 11 = true ∧ e 12 = true ∧ True from hdn 14 r14); obtain ⟨-, -, -, -, -, -, -, -, -, -, -, -, -, -, r12, -⟩ := (show e 1 = true ∧ e 2 = true ∧ e 0 = true ∧ e 1 = true ∧ e 2 = true ∧ e 3 = true ∧ e 4 = true ∧ e 5 = true ∧ e 6 = true ∧ e 7 = true ∧ e 8 = true ∧ e 9 = true ∧ e 10 = true ∧ e 11 = true ∧ e 12 = true ∧ True from hdn 13 r13); obtain ⟨r8, -, -, -⟩ := (show e 8 = true ∧ e 9 = true ∧ e 11 = true ∧ True from hdn 12 r12); obtain ⟨r7, -⟩ := (show e 7 = true ∧ True from hdn 8 r8); obtain ⟨r6, -⟩ := (show e 6 = true ∧ True from hdn 7 r7); exact r6
        simp only [setE, h3, h4, h5, he, h12, h15, cj_t, cj_f, cjn_t, cjn_f, cb_t, cb_f]
        refine U (q_idxU (V rfl) rfl (V rfl) ts22 te22 (by omega) (by first | omega | (simp only [List.length_set]; omega))) <| Nt <| We ?_ ?_
        ·exact ⟨V rfl, V rfl, V rfl, V rfl, V rfl, V rfl, V rfl, V rfl, V rfl, V rfl, V rfl, V rfl, Vj, V rfl, V rfl, V rfl, V rfl, V rfl, V rfl, V rfl, Z⟩
        ·exact ⟨⟨_, rfl, ⟨rfl, rfl, (An rfl)⟩⟩, ⟨_, rfl, ⟨rfl, rfl, (An rfl)⟩⟩, ⟨_, rfl, rfl⟩, ⟨_, rfl, rfl⟩, Z⟩
       ·intro e hdn he hdp
        obtain ⟨h6, -⟩ := (show e 6 = true ∧ True from hdp)
        obtain ⟨h4, h5, -⟩ := (show e 4 = true ∧ e 5 = true ∧ True from hdn 6 h6)
        obtain ⟨h3, -⟩ := (show e 3 = true ∧ True from hdn 4 h4)
        have h12 : e 12 = false := fls he fun q => by obtain ⟨r8, -, -, -⟩ := (show e 8 = true ∧ e 9 = true ∧ e 11 = true ∧ True from hdn 12 q); obtain ⟨r7, -⟩ := (show e 7 = true ∧ True from hdn 8 r8); exact r7
        have h15 : e 15 = false := fls he fun q => by obtain ⟨r14, -, -, -, -, -, -, -, -, -, -, -, -, -, -, -, -⟩ := (show e 14 = true ∧ e 12 = true ∧ e 12 = true ∧ e 0 = true ∧ e 1 = true ∧ e 2 = true ∧ e 3 = true ∧ e 4 = true ∧ e 5 = true ∧ e 6 = true ∧ e 7 = true ∧ e 8 = true ∧ e 9 = true ∧ e 10 = true ∧ e 11 = true ∧ e 12 = true ∧ True from hdn 15 q); obtain ⟨r13, -, -, -, -, -, -, -, -, -, -, -, -, -, -⟩ := (show e 13 = true ∧ e 0 = true ∧ e 1 = true ∧ e 2 = true ∧ e 3 = true ∧ e 4 = true ∧ e 5 = true ∧ e 6 = true ∧ e 7 = true ∧ e 8 = true ∧ e 9 = true ∧ e 10 = true ∧ e 11 = true ∧ e 12 = true ∧ True from hdn 14 r14); obtain ⟨-, -, -, -, -, -, -, -, -, -, -, -, -, -, r12, -⟩ := (show e 1 = true ∧ e 2 = true ∧ e 0 = true ∧ e 1 = true ∧ e 2 = true ∧ e 3 = true ∧ e 4 = true ∧ e 5 = true ∧ e 6 = true ∧ e 7 = true ∧ e 8 = true ∧ e 9 = true ∧ e 10 = true ∧ e 11 = true ∧ e 12 = true ∧ True from hdn 13 r13); obtain ⟨r8, -, -, -⟩ := (show e 8 = true ∧ e 9 = true ∧ e 11 = true ∧ True from hdn 12 r12); obtain ⟨r7, -⟩ := (show e 7 = true ∧ True from hdn 8 r8); exact r7
        simp only [setE, h3, h4, h5, h6, he, h12, h15, cj_t, cj_f, cjn_t, cjn_f, cb_t, cb_f]
        refine U (FlO _ _ (V rfl) Un61 rfl 0 Sz33) <| Nt <| We ?_ ?_
        ·exact ⟨V rfl, V rfl, V rfl, V rfl, V rfl, V rfl, V rfl, V rfl, V rfl, V rfl, V rfl, V rfl, Vj, V rfl, V rfl, V rfl, V rfl, V rfl, V rfl, V rfl, Z⟩
        ·exact ⟨⟨_, rfl, ⟨rfl, rfl, (An rfl)⟩⟩, ⟨_, rfl, ⟨rfl, rfl, (An rfl)⟩⟩, ⟨_, rfl, rfl⟩, ⟨_, rfl, rfl⟩, Z⟩
       ·intro e hdn he hdp
        obtain ⟨h7, -⟩ := (show e 7 = true ∧ True from hdp)
        obtain ⟨h6, -⟩ := (show e 6 = true ∧ True from hdn 7 h7)
        obtain ⟨h4, h5, -⟩ := (show e 4 = true ∧ e 5 = true ∧ True from hdn 6 h6)
        obtain ⟨h3, -⟩ := (show e 3 = true ∧ True from hdn 4 h4)
        have h12 : e 12 = false := fls he fun q => by obtain ⟨r8, -, -, -⟩ := (show e 8 = true ∧ e 9 = true ∧ e 11 = true ∧ True from hdn 12 q); exact r8
        have h15 : e 15 = false := fls he fun q => by obtain ⟨r14, -, -, -, -, -, -, -, -, -, -, -, -, -, -, -, -⟩ := (show e 14 = true ∧ e 12 = true ∧ e 12 = true ∧ e 0 = true ∧ e 1 = true ∧ e 2 = true ∧ e 3 = true ∧ e 4 = true ∧ e 5 = true ∧ e 6 = true ∧ e 7 = true ∧ e 8 = true ∧ e 9 = true ∧ e 10 = true ∧ e 11 = true ∧ e 12 = true ∧ True from hdn 15 q); obtain ⟨r13, -, -, -, -, -, -, -, -, -, -, -, -, -, -⟩ := (show e 13 = true ∧ e 0 = true ∧ e 1 = true ∧ e 2 = true ∧ e 3 = true ∧ e 4 = true ∧ e 5 = true ∧ e 6 = true ∧ e 7 = true ∧ e 8 = true ∧ e 9 = true ∧ e 10 = true ∧ e 11 = true ∧ e 12 = true ∧ True from hdn 14 r14); obtain ⟨-, -, -, -, -, -, -, -, -, -, -, -, -, -, r12, -⟩ := (show e 1 = true ∧ e 2 = true ∧ e 0 = true ∧ e 1 = true ∧ e 2 = true ∧ e 3 = true ∧ e 4 = true ∧ e 5 = true ∧ e 6 = true ∧ e 7 = true ∧ e 8 = true ∧ e 9 = true ∧ e 10 = true ∧ e 11 = true ∧ e 12 = true ∧ True from hdn 13 r13); obtain ⟨r8, -, -, -⟩ := (show e 8 = true ∧ e 9 = true ∧ e 11 = true ∧ True from hdn 12 r12); exact r8
        simp only [setE, h3, h4, h5, h6, h7, he, h12, h15, cj_t, cj_f, cjn_t, cjn_f, cb_t, cb_f]
        refine U (LdU (V rfl) rfl Ga33 (by decide) uat_hole) <| Nt <| We ?_ ?_
        ·exact ⟨V rfl, V rfl, V rfl, V rfl, V rfl, V rfl, V rfl, V rfl, V rfl, V rfl, V rfl, V rfl, Vj, V rfl, V rfl, V rfl, V rfl, V rfl, V rfl, V rfl, Z⟩
        ·exact ⟨⟨_, rfl, ⟨rfl, rfl, (An rfl)⟩⟩, ⟨_, rfl, ⟨rfl, rfl, (An rfl)⟩⟩, ⟨_, rfl, rfl⟩, ⟨_, rfl, rfl⟩, Z⟩
       ·intro e hdn he hdp
        have h12 : e 12 = false := fls he fun q => by obtain ⟨-, r9, -, -⟩ := (show e 8 = true ∧ e 9 = true ∧ e 11 = true ∧ True from hdn 12 q); exact r9
        have h15 : e 15 = false := fls he fun q => by obtain ⟨r14, -, -, -, -, -, -, -, -, -, -, -, -, -, -, -, -⟩ := (show e 14 = true ∧ e 12 = true ∧ e 12 = true ∧ e 0 = true ∧ e 1 = true ∧ e 2 = true ∧ e 3 = true ∧ e 4 = true ∧ e 5 = true ∧ e 6 = true ∧ e 7 = true ∧ e 8 = true ∧ e 9 = true ∧ e 10 = true ∧ e 11 = true ∧ e 12 = true ∧ True from hdn 15 q); obtain ⟨r13, -, -, -, -, -, -, -, -, -, -, -, -, -, -⟩ := (show e 13 = true ∧ e 0 = true ∧ e 1 = true ∧ e 2 = true ∧ e 3 = true ∧ e 4 = true ∧ e 5 = true ∧ e 6 = true ∧ e 7 = true ∧ e 8 = true ∧ e 9 = true ∧ e 10 = true ∧ e 11 = true ∧ e 12 = true ∧ True from hdn 14 r14); obtain ⟨-, -, -, -, -, -, -, -, -, -, -, -, -, -, r12, -⟩ := (show e 1 = true ∧ e 2 = true ∧ e 0 = true ∧ e 1 = true ∧ e 2 = true ∧ e 3 = true ∧ e 4 = true ∧ e 5 = true ∧ e 6 = true ∧ e 7 = true ∧ e 8 = true ∧ e 9 = true ∧ e 10 = true ∧ e 11 = true ∧ e 12 = true ∧ True from hdn 13 r13); obtain ⟨-, r9, -, -⟩ := (show e 8 = true ∧ e 9 = true ∧ e 11 = true ∧ True from hdn 12 r12); exact r9
        simp only [setE, he, h12, h15, cj_t, cj_f, cjn_t, cjn_f, cb_t, cb_f]
        refine U (Mv (V rfl)) <| Nt <| We ?_ ?_
        ·exact ⟨V rfl, V rfl, V rfl, V rfl, V rfl, V rfl, V rfl, V rfl, V rfl, V rfl, V rfl, V rfl, Vj, V rfl, V rfl, V rfl, V rfl, V rfl, V rfl, V rfl, Z⟩
        ·exact ⟨⟨_, rfl, ⟨rfl, rfl, (An rfl)⟩⟩, ⟨_, rfl, ⟨rfl, rfl, (An rfl)⟩⟩, ⟨_, rfl, rfl⟩, ⟨_, rfl, rfl⟩, Z⟩
       ·intro e hdn he hdp
        have h12 : e 12 = false := fls he fun q => by obtain ⟨-, -, r11, -⟩ := (show e 8 = true ∧ e 9 = true ∧ e 11 = true ∧ True from hdn 12 q); obtain ⟨r10, -⟩ := (show e 10 = true ∧ True from hdn 11 r11); exact r10
        have h15 : e 15 = false := fls he fun q => by obtain ⟨r14, -, -, -, -, -, -, -, -, -, -, -, -, -, -, -, -⟩ := (show e 14 = true ∧ e 12 = true ∧ e 12 = true ∧ e 0 = true ∧ e 1 = true ∧ e 2 = true ∧ e 3 = true ∧ e 4 = true ∧ e 5 = true ∧ e 6 = true ∧ e 7 = true ∧ e 8 = true ∧ e 9 = true ∧ e 10 = true ∧ e 11 = true ∧ e 12 = true ∧ True from hdn 15 q); obtain ⟨r13, -, -, -, -, -, -, -, -, -, -, -, -, -, -⟩ := (show e 13 = true ∧ e 0 = true ∧ e 1 = true ∧ e 2 = true ∧ e 3 = true ∧ e 4 = true ∧ e 5 = true ∧ e 6 = true ∧ e 7 = true ∧ e 8 = true ∧ e 9 = true ∧ e 10 = true ∧ e 11 = true ∧ e 12 = true ∧ True from hdn 14 r14); obtain ⟨-, -, -, -, -, -, -, -, -, -, -, -, -, -, r12, -⟩ := (show e 1 = true ∧ e 2 = true ∧ e 0 = true ∧ e 1 = true ∧ e 2 = true ∧ e 3 = true ∧ e 4 = true ∧ e 5 = true ∧ e 6 = true ∧ e 7 = true ∧ e 8 = true ∧ e 9 = true ∧ e 10 = true ∧ e 11 = true ∧ e 12 = true ∧ True from hdn 13 r13); obtain ⟨-, -, r11, -⟩ := (show e 8 = true ∧ e 9 = true ∧ e 11 = true ∧ True from hdn 12 r12); obtain ⟨r10, -⟩ := (show e 10 = true ∧ True from hdn 11 r11); exact r10
        simp only [setE, he, h12, h15, cj_t, cj_f, cjn_t, cjn_f, cb_t, cb_f]
        refine U (Mv (V rfl)) <| Nt <| We ?_ ?_
        ·exact ⟨V rfl, V rfl, V rfl, V rfl, V rfl, V rfl, V rfl, V rfl, V rfl, V rfl, V rfl, V rfl, Vj, V rfl, V rfl, V rfl, V rfl, V rfl, V rfl, V rfl, Z⟩
        ·exact ⟨⟨_, rfl, ⟨rfl, rfl, (An rfl)⟩⟩, ⟨_, rfl, ⟨rfl, rfl, (An rfl)⟩⟩, ⟨_, rfl, rfl⟩, ⟨_, rfl, rfl⟩, Z⟩
       ·intro e hdn he hdp
        obtain ⟨h10, -⟩ := (show e 10 = true ∧ True from hdp)
        have h12 : e 12 = false := fls he fun q => by obtain ⟨-, -, r11, -⟩ := (show e 8 = true ∧ e 9 = true ∧ e 11 = true ∧ True from hdn 12 q); exact r11
        have h15 : e 15 = false := fls he fun q => by obtain ⟨r14, -, -, -, -, -, -, -, -, -, -, -, -, -, -, -, -⟩ := (show e 14 = true ∧ e 12 = true ∧ e 12 = true ∧ e 0 = true ∧ e 1 = true ∧ e 2 = true ∧ e 3 = true ∧ e 4 = true ∧ e 5 = true ∧ e 6 = true ∧ e 7 = true ∧ e 8 = true ∧ e 9 = true ∧ e 10 = true ∧ e 11 = true ∧ e 12 = true ∧ True from hdn 15 q); obtain ⟨r13, -, -, -, -, -, -, -, -, -, -, -, -, -, -⟩ := (show e 13 = true ∧ e 0 = true ∧ e 1 = true ∧ e 2 = true ∧ e 3 = true ∧ e 4 = true ∧ e 5 = true ∧ e 6 = true ∧ e 7 = true ∧ e 8 = true ∧ e 9 = true ∧ e 10 = true ∧ e 11 = true ∧ e 12 = true ∧ True from hdn 14 r14); obtain ⟨-, -, -, -, -, -, -, -, -, -, -, -, -, -, r12, -⟩ := (show e 1 = true ∧ e 2 = true ∧ e 0 = true ∧ e 1 = true ∧ e 2 = true ∧ e 3 = true ∧ e 4 = true ∧ e 5 = true ∧ e 6 = true ∧ e 7 = true ∧ e 8 = true ∧ e 9 = true ∧ e 10 = true ∧ e 11 = true ∧ e 12 = true ∧ True from hdn 13 r13); obtain ⟨-, -, r11, -⟩ := (show e 8 = true ∧ e 9 = true ∧ e 11 = true ∧ True from hdn 12 r12); exact r11
        simp only [setE, h10, he, h12, h15, cj_t, cj_f, cjn_t, cjn_f, cb_t, cb_f]
        refine Uw (w_bs (n := 1) (zget := fun _ => iv 0) [(fun _ => iv (c.pl))] (rowG inCell 0 [c.pl]) Un33 Sz3 zero3 (by decide) rfl (by decide) ⟨⟨rfl, .inr ⟨rfl, (V rfl), rfl⟩, rfl⟩, Z⟩ ⟨Z, ⟨Z, rfl⟩⟩) <| Nt <| We ?_ ?_
        ·exact ⟨V rfl, V rfl, V rfl, V rfl, V rfl, V rfl, V rfl, V rfl, V rfl, V rfl, V rfl, V rfl, Vj, V rfl, V rfl, V rfl, V rfl, V rfl, V rfl, V rfl, Z⟩
        ·exact ⟨⟨_, rfl, ⟨rfl, rfl, (An rfl)⟩⟩, ⟨_, rfl, ⟨rfl, rfl, (An rfl)⟩⟩, ⟨_, rfl, rfl⟩, ⟨_, rfl, rfl⟩, Z⟩
       ·intro e hdn he hdp
        obtain ⟨h8, h9, h11, -⟩ := (show e 8 = true ∧ e 9 = true ∧ e 11 = true ∧ True from hdp)
        obtain ⟨h10, -⟩ := (show e 10 = true ∧ True from hdn 11 h11)
        obtain ⟨h7, -⟩ := (show e 7 = true ∧ True from hdn 8 h8)
        obtain ⟨h6, -⟩ := (show e 6 = true ∧ True from hdn 7 h7)
        obtain ⟨h4, h5, -⟩ := (show e 4 = true ∧ e 5 = true ∧ True from hdn 6 h6)
        obtain ⟨h3, -⟩ := (show e 3 = true ∧ True from hdn 4 h4)
        have h13 : e 13 = false := fls he fun q => by obtain ⟨-, -, -, -, -, -, -, -, -, -, -, -, -, -, r12, -⟩ := (show e 1 = true ∧ e 2 = true ∧ e 0 = true ∧ e 1 = true ∧ e 2 = true ∧ e 3 = true ∧ e 4 = true ∧ e 5 = true ∧ e 6 = true ∧ e 7 = true ∧ e 8 = true ∧ e 9 = true ∧ e 10 = true ∧ e 11 = true ∧ e 12 = true ∧ True from hdn 13 q); exact r12
        have h14 : e 14 = false := fls he fun q => by obtain ⟨r13, -, -, -, -, -, -, -, -, -, -, -, -, -, -⟩ := (show e 13 = true ∧ e 0 = true ∧ e 1 = true ∧ e 2 = true ∧ e 3 = true ∧ e 4 = true ∧ e 5 = true ∧ e 6 = true ∧ e 7 = true ∧ e 8 = true ∧ e 9 = true ∧ e 10 = true ∧ e 11 = true ∧ e 12 = true ∧ True from hdn 14 q); obtain ⟨-, -, -, -, -, -, -, -, -, -, -, -, -, -, r12, -⟩ := (show e 1 = true ∧ e 2 = true ∧ e 0 = true ∧ e 1 = true ∧ e 2 = true ∧ e 3 = true ∧ e 4 = true ∧ e 5 = true ∧ e 6 = true ∧ e 7 = true ∧ e 8 = true ∧ e 9 = true ∧ e 10 = true ∧ e 11 = true ∧ e 12 = true ∧ True from hdn 13 r13); exact r12
        have h15 : e 15 = false := fls he fun q => by obtain ⟨r14, -, -, -, -, -, -, -, -, -, -, -, -, -, -, -, -⟩ := (show e 14 = true ∧ e 12 = true ∧ e 12 = true ∧ e 0 = true ∧ e 1 = true ∧ e 2 = true ∧ e 3 = true ∧ e 4 = true ∧ e 5 = true ∧ e 6 = true ∧ e 7 = true ∧ e 8 = true ∧ e 9 = true ∧ e 10 = true ∧ e 11 = true ∧ e 12 = true ∧ True from hdn 15 q); obtain ⟨r13, -, -, -, -, -, -, -, -, -, -, -, -, -, -⟩ := (show e 13 = true ∧ e 0 = true ∧ e 1 = true ∧ e 2 = true ∧ e 3 = true ∧ e 4 = true ∧ e 5 = true ∧ e 6 = true ∧ e 7 = true ∧ e 8 = true ∧ e 9 = true ∧ e 10 = true ∧ e 11 = true ∧ e 12 = true ∧ True from hdn 14 r14); obtain ⟨-, -, -, -, -, -, -, -, -, -, -, -, -, -, r12, -⟩ := (show e 1 = true ∧ e 2 = true ∧ e 0 = true ∧ e 1 = true ∧ e 2 = true ∧ e 3 = true ∧ e 4 = true ∧ e 5 = true ∧ e 6 = true ∧ e 7 = true ∧ e 8 = true ∧ e 9 = true ∧ e 10 = true ∧ e 11 = true ∧ e 12 = true ∧ True from hdn 13 r13); exact r12
        simp only [setE, h3, h4, h5, h6, h7, h8, h9, h10, h11, he, h13, h14, h15, cj_t, cj_f, cjn_t, cjn_f, cb_t, cb_f]
        refine CM (cargs := [SV.own 1000, iv (((Nd.kids ((outSt l c.pl).getD (Int.toNat p.pl) default)).length : Int)), inRow ([c.pl])]) [(1000, 10)] [(0, 12)] en98 (by exact ⟨(V rfl), (V rfl), (V rfl), Z⟩) (ins_ct (Nd.kids ((outSt l c.pl).getD (Int.toNat p.pl) default)) ([c.pl]) ((Nd.kids ((outSt l c.pl).getD (Int.toNat p.pl) default)).length) (by first | omega | assumption) (by first | omega | (simp only [List.length_cons, List.length_nil]; omega) | assumption)) (by exact ⟨⟨_, rfl, rfl⟩, Z⟩) rfl (freshN_cons (fresh_mk ⟨(noId_cj rfl), (noId_cj rfl), (noId_cj rfl), rfl, rfl, rfl, rfl, rfl, rfl, rfl, rfl, rfl, rfl, rfl, rfl, rfl, rfl, rfl, rfl, rfl, Z⟩ rfl rfl) rfl rfl) rfl rfl <| Nt <| We ?_ ?_
        ·exact ⟨V rfl, V rfl, V rfl, V rfl, V rfl, V rfl, V rfl, V rfl, V rfl, V rfl, V rfl, V rfl, V rfl, Vj, Vj, V rfl, V rfl, V rfl, V rfl, V rfl, Z⟩
        ·exact ⟨⟨_, rfl, ⟨rfl, rfl, (An rfl)⟩⟩, ⟨_, rfl, ⟨rfl, rfl, (An rfl)⟩⟩, ⟨_, rfl, rfl⟩, ⟨_, rfl, rfl⟩, Z⟩
       ·intro e hdn he hdp
        obtain ⟨h1, h2, h0, -, -, h3, h4, h5, h6, h7, h8, h9, h10, h11, h12, -⟩ := (show e 1 = true ∧ e 2 = true ∧ e 0 = true ∧ e 1 = true ∧ e 2 = true ∧ e 3 = true ∧ e 4 = true ∧ e 5 = true ∧ e 6 = true ∧ e 7 = true ∧ e 8 = true ∧ e 9 = true ∧ e 10 = true ∧ e 11 = true ∧ e 12 = true ∧ True from hdp)
        have h15 : e 15 = false := fls he fun q => by obtain ⟨r14, -, -, -, -, -, -, -, -, -, -, -, -, -, -, -, -⟩ := (show e 14 = true ∧ e 12 = true ∧ e 12 = true ∧ e 0 = true ∧ e 1 = true ∧ e 2 = true ∧ e 3 = true ∧ e 4 = true ∧ e 5 = true ∧ e 6 = true ∧ e 7 = true ∧ e 8 = true ∧ e 9 = true ∧ e 10 = true ∧ e 11 = true ∧ e 12 = true ∧ True from hdn 15 q); obtain ⟨r13, -, -, -, -, -, -, -, -, -, -, -, -, -, -⟩ := (show e 13 = true ∧ e 0 = true ∧ e 1 = true ∧ e 2 = true ∧ e 3 = true ∧ e 4 = true ∧ e 5 = true ∧ e 6 = true ∧ e 7 = true ∧ e 8 = true ∧ e 9 = true ∧ e 10 = true ∧ e 11 = true ∧ e 12 = true ∧ True from hdn 14 r14); exact r13
        simp only [setE, h0, h1, h2, h3, h4, h5, h6, h7, h8, h9, h10, h11, h12, he, h15, cj_t, cj_f, cjn_t, cjn_f, cb_t, cb_f]
        refine U (q_idxU (V rfl) rfl (V rfl) ts22 te22 (by omega) (by first | omega | (simp only [List.length_set]; omega))) <| Nt <| We ?_ ?_
        ·exact ⟨V rfl, V rfl, V rfl, V rfl, V rfl, V rfl, V rfl, V rfl, V rfl, V rfl, V rfl, V rfl, V rfl, V rfl, V rfl, V rfl, V rfl, V rfl, V rfl, V rfl, Z⟩
        ·exact ⟨⟨_, rfl, ⟨rfl, rfl, (An rfl)⟩⟩, ⟨_, rfl, ⟨rfl, rfl, (An rfl)⟩⟩, ⟨_, rfl, rfl⟩, ⟨_, rfl, rfl⟩, Z⟩
       ·intro e hdn he hdp
        obtain ⟨h13, h0, h1, h2, h3, h4, h5, h6, h7, h8, h9, h10, h11, h12, -⟩ := (show e 13 = true ∧ e 0 = true ∧ e 1 = true ∧ e 2 = true ∧ e 3 = true ∧ e 4 = true ∧ e 5 = true ∧ e 6 = true ∧ e 7 = true ∧ e 8 = true ∧ e 9 = true ∧ e 10 = true ∧ e 11 = true ∧ e 12 = true ∧ True from hdp)
        have h15 : e 15 = false := fls he fun q => by obtain ⟨r14, -, -, -, -, -, -, -, -, -, -, -, -, -, -, -, -⟩ := (show e 14 = true ∧ e 12 = true ∧ e 12 = true ∧ e 0 = true ∧ e 1 = true ∧ e 2 = true ∧ e 3 = true ∧ e 4 = true ∧ e 5 = true ∧ e 6 = true ∧ e 7 = true ∧ e 8 = true ∧ e 9 = true ∧ e 10 = true ∧ e 11 = true ∧ e 12 = true ∧ True from hdn 15 q); exact r14
        simp only [setE, h0, h1, h2, h3, h4, h5, h6, h7, h8, h9, h10, h11, h12, h13, he, h15, cj_t, cj_f, cjn_t, cjn_f, cb_t, cb_f]
        refine U (FlO _ _ (V rfl) Un61 rfl 0 Sz33) <| Nt <| We ?_ ?_
        ·exact ⟨V rfl, V rfl, V rfl, V rfl, V rfl, V rfl, V rfl, V rfl, V rfl, V rfl, V rfl, V rfl, V rfl, V rfl, V rfl, V rfl, V rfl, V rfl, V rfl, V rfl, Z⟩
        ·exact ⟨⟨_, rfl, ⟨rfl, rfl, (An rfl)⟩⟩, ⟨_, rfl, ⟨rfl, rfl, (An rfl)⟩⟩, ⟨_, rfl, rfl⟩, ⟨_, rfl, rfl⟩, Z⟩
       ·intro e hdn he hdp
        obtain ⟨h14, h12, -, h0, h1, h2, h3, h4, h5, h6, h7, h8, h9, h10, h11, -, -⟩ := (show e 14 = true ∧ e 12 = true ∧ e 12 = true ∧ e 0 = true ∧ e 1 = true ∧ e 2 = true ∧ e 3 = true ∧ e 4 = true ∧ e 5 = true ∧ e 6 = true ∧ e 7 = true ∧ e 8 = true ∧ e 9 = true ∧ e 10 = true ∧ e 11 = true ∧ e 12 = true ∧ True from hdp)
        obtain ⟨h13, -, -, -, -, -, -, -, -, -, -, -, -, -, -⟩ := (show e 13 = true ∧ e 0 = true ∧ e 1 = true ∧ e 2 = true ∧ e 3 = true ∧ e 4 = true ∧ e 5 = true ∧ e 6 = true ∧ e 7 = true ∧ e 8 = true ∧ e 9 = true ∧ e 10 = true ∧ e 11 = true ∧ e 12 = true ∧ True from hdn 14 h14)
        simp only [setE, h0, h1, h2, h3, h4, h5, h6, h7, h8, h9, h10, h11, h12, h13, h14, he, cj_t, cj_f, cjn_t, cjn_f, cb_t, cb_f]
        refine t_stH (V rfl) rfl (V rfl) (one_own rfl) Sz33 (by decide) (.inl rfl) <| Nt <| We ?_ ?_
        ·exact ⟨V rfl, V rfl, V rfl, V rfl, V rfl, V rfl, V rfl, V rfl, V rfl, V rfl, V rfl, V rfl, V rfl, V rfl, V rfl, V rfl, V rfl, V rfl, V rfl, V rfl, Z⟩
        ·exact ⟨⟨_, rfl, ⟨rfl, rfl, (An rfl)⟩⟩, ⟨_, rfl, ⟨rfl, rfl, (An rfl)⟩⟩, ⟨_, rfl, rfl⟩, ⟨_, rfl, rfl⟩, Z⟩
       ·intro e he
        have h0 := he 0 (by decide)
        have h1 := he 1 (by decide)
        have h2 := he 2 (by decide)
        have h3 := he 3 (by decide)
        have h4 := he 4 (by decide)
        have h5 := he 5 (by decide)
        have h6 := he 6 (by decide)
        have h7 := he 7 (by decide)
        have h8 := he 8 (by decide)
        have h9 := he 9 (by decide)
        have h10 := he 10 (by decide)
        have h11 := he 11 (by decide)
        have h12 := he 12 (by decide)
        have h13 := he 13 (by decide)
        have h14 := he 14 (by decide)
        have h15 := he 15 (by decide)
        show Weak _ ⟨[(102, cj (e 0) (SV.bp 1 0)), (103, cj (e 1) (SV.own 9)), (104, cj (e 2) (iv (p.pl))), (105, cj (e 3) (SV.bp 1 0)), (106, cj (e 4) (SV.own 9)), (107, cj (e 5) (iv (p.pl))), (108, cj (e 6) (SV.oe 9 8 (Int.toNat p.pl) 0)), (109, cj (e 7) (SV.oe 9 8 (Int.toNat p.pl) 5)), (110, cj (e 8) (SV.own 10)), (111, cj (e 9) (iv (((Nd.kids ((outSt l c.pl).getD (Int.toNat p.pl) default)).length : Int)))), (112, cj (e 10) (iv (c.pl))), (113, cj (e 11) (inRow ([c.pl]))), (114, cj (e 12) (SV.own 12)), (115, cj (e 13) (SV.oe 9 8 (Int.toNat p.pl) 0)), (116, cj (e 14) (SV.oe 9 8 (Int.toNat p.pl) 5)), (4, SV.bp 1 0), (8, SV.bp 4 0), (11, iv (p.pl)), (12, iv (c.pl)), (13, iv (((Nd.kids ((outSt l c.pl).getD (Int.toNat p.pl) default)).length : Int)))], (cb (e 12) (cb (e 15) [(1, Own.box 1 (fun zt => SV.renm (rn [(1000, 1), (1001, 8), (0, 9)]) ((cmpG [SV.own 0]) zt)) 24), (4, Own.box 1 (cmpG [SV.v (Value.slice none 0 0)]) 24), (9, urowOf ndCell 8 default (outSt l c.pl) 61 5 Nd.kids inCell 1 0 3 l.length (some (Int.toNat p.pl, SV.own 12))), (12, ownOf inCell 1 0 ((Nd.kids ((outSt l c.pl).getD (Int.toNat p.pl) default)).take ((Nd.kids ((outSt l c.pl).getD (Int.toNat p.pl) default)).length) ++ ([c.pl]) ++ (Nd.kids ((outSt l c.pl).getD (Int.toNat p.pl) default)).drop ((Nd.kids ((outSt l c.pl).getD (Int.toNat p.pl) default)).length)) 3)] [(1, Own.box 1 (fun zt => SV.renm (rn [(1000, 1), (1001, 8), (0, 9)]) ((cmpG [SV.own 0]) zt)) 24), (4, Own.box 1 (cmpG [SV.v (Value.slice none 0 0)]) 24), (9, urowOf ndCell 8 default (outSt l c.pl) 61 5 Nd.kids inCell 1 0 3 l.length (some (Int.toNat p.pl, SV.own 10))), (12, ownOf inCell 1 0 ((Nd.kids ((outSt l c.pl).getD (Int.toNat p.pl) default)).take ((Nd.kids ((outSt l c.pl).getD (Int.toNat p.pl) default)).length) ++ ([c.pl]) ++ (Nd.kids ((outSt l c.pl).getD (Int.toNat p.pl) default)).drop ((Nd.kids ((outSt l c.pl).getD (Int.toNat p.pl) default)).length)) 3)]) (cb (e 15) [] [(1, Own.box 1 (fun zt => SV.renm (rn [(1000, 1), (1001, 8), (0, 9)]) ((cmpG [SV.own 0]) zt)) 24), (4, Own.box 1 (cmpG [SV.v (Value.slice none 0 0)]) 24), (9, urowOf ndCell 8 default (outSt l c.pl) 61 5 Nd.kids inCell 1 0 3 l.length (some (Int.toNat p.pl, SV.own 10))), (10, ownOf inCell 1 0 (Nd.kids ((outSt l c.pl).getD (Int.toNat p.pl) default)) 3)]))⟩ _
        simp only [h0, h1, h2, h3, h4, h5, h6, h7, h8, h9, h10, h11, h12, h13, h14, h15]
        show Weak _ ⟨[(102, SV.bp 1 0), (103, SV.own 9), (104, iv (p.pl)), (105, SV.bp 1 0), (106, SV.own 9), (107, iv (p.pl)), (108, SV.oe 9 8 (Int.toNat p.pl) 0), (109, SV.oe 9 8 (Int.toNat p.pl) 5), (110, SV.own 10), (111, iv (((Nd.kids ((outSt l c.pl).getD (Int.toNat p.pl) default)).length : Int))), (112, iv (c.pl)), (113, inRow ([c.pl])), (114, SV.own 12), (115, SV.oe 9 8 (Int.toNat p.pl) 0), (116, SV.oe 9 8 (Int.toNat p.pl) 5), (4, SV.bp 1 0), (8, SV.bp 4 0), (11, iv (p.pl)), (12, iv (c.pl)), (13, iv (((Nd.kids ((outSt l c.pl).getD (Int.toNat p.pl) default)).length : Int)))], [(1, Own.box 1 (fun zt => SV.renm (rn [(1000, 1), (1001, 8), (0, 9)]) ((cmpG [SV.own 0]) zt)) 24), (4, Own.box 1 (cmpG [SV.v (Value.slice none 0 0)]) 24), (9, urowOf ndCell 8 default (outSt l c.pl) 61 5 Nd.kids inCell 1 0 3 l.length (some (Int.toNat p.pl, SV.own 12))), (12, ownOf inCell 1 0 ((Nd.kids ((outSt l c.pl).getD (Int.toNat p.pl) default)).take ((Nd.kids ((outSt l c.pl).getD (Int.toNat p.pl) default)).length) ++ ([c.pl]) ++ (Nd.kids ((outSt l c.pl).getD (Int.toNat p.pl) default)).drop ((Nd.kids ((outSt l c.pl).getD (Int.toNat p.pl) default)).length)) 3)]⟩ _
        refine We ?_ ?_
        ·exact ⟨V rfl, V rfl, V rfl, V rfl, V rfl, V rfl, V rfl, V rfl, V rfl, V rfl, V rfl, V rfl, V rfl, V rfl, V rfl, V rfl, V rfl, V rfl, V rfl, V rfl, Z⟩
        ·exact ⟨⟨_, rfl, ⟨rfl, rfl, (An rfl)⟩⟩, ⟨_, rfl, ⟨rfl, rfl, (An rfl)⟩⟩, ⟨_, rfl, rfl⟩, ⟨_, rfl, rfl⟩, Z⟩
       exact Sq <| Tc (turn_joinT 9 (Int.toNat p.pl) 12 l.length ({ ((outSt l c.pl).getD (Int.toNat p.pl) default) with kids := (Nd.kids ((outSt l c.pl).getD (Int.toNat p.pl) default)).take ((Nd.kids ((outSt l c.pl).getD (Int.toNat p.pl) default)).length) ++ ([c.pl]) ++ (Nd.kids ((outSt l c.pl).getD (Int.toNat p.pl) default)).drop ((Nd.kids ((outSt l c.pl).getD (Int.toNat p.pl) default)).length) }) rfl rfl rfl (by first | omega | (simp only [List.length_set]; omega)) (by omega) (by rw [if_pos (by omega)]) rfl rfl (fun t ht hne => match t, ht, hne with | 0, _, _ => rfl | 1, _, _ => rfl | 2, _, _ => rfl | 3, _, _ => rfl | 4, _, _ => rfl | 5, _, hne => absurd rfl hne | 6, _, _ => rfl | 7, _, _ => rfl) rfl) <| Rt <| U (FlB _ _ (V rfl) Un24 rfl 0 Sz22) <| U (LdB (V rfl) rfl Ga22 (by decide)) <| U (Mv (V rfl)) <| U (Mv (V rfl)) <| U (q_idxU (V rfl) rfl (V rfl) ts22 te22 (by omega) (by first | omega | (simp only [List.length_set]; omega))) <| U (FlO _ _ (V rfl) Un61 rfl 0 Sz3) <| t_stUT ({ (((outSt l c.pl).set (Int.toNat p.pl) ({ ((outSt l c.pl).getD (Int.toNat p.pl) default) with kids := (Nd.kids ((outSt l c.pl).getD (Int.toNat p.pl) default)).take ((Nd.kids ((outSt l c.pl).getD (Int.toNat p.pl) default)).length) ++ ([c.pl]) ++ (Nd.kids ((outSt l c.pl).getD (Int.toNat p.pl) default)).drop ((Nd.kids ((outSt l c.pl).getD (Int.toNat p.pl) default)).length) })).getD (Int.toNat c.pl) default) with par := p.pl }) (V rfl) rfl (V rfl) rfl rfl Sz3 (by decide) (by decide) (by first | omega | (simp only [List.length_set]; omega)) rfl (fun t ht hne => match t, ht, hne with | 0, _, _ => rfl | 1, _, _ => rfl | 2, _, _ => rfl | 3, _, _ => rfl | 4, _, hne => absurd rfl hne | 5, _, _ => rfl | 6, _, _ => rfl | 7, _, _ => rfl) rfl <| Nt <| Sq <| Rt <| U (LBA (V rfl) rfl Ga24 Sz24 (by decide)) <| StA (V rfl) rfl (V rfl) Sz24 <| U (As K) <| Nt <| Tc (turn_uAT 9 rfl rfl (fun _ => rfl)) <| FzC 9 rfl <| Rx <| RR2 rfl (rv_aggI (g' := stG (((outSt l c.pl).set (Int.toNat p.pl) ({ ((outSt l c.pl).getD (Int.toNat p.pl) default) with kids := (Nd.kids ((outSt l c.pl).getD (Int.toNat p.pl) default)).take ((Nd.kids ((outSt l c.pl).getD (Int.toNat p.pl) default)).length) ++ ([c.pl]) ++ (Nd.kids ((outSt l c.pl).getD (Int.toNat p.pl) default)).drop ((Nd.kids ((outSt l c.pl).getD (Int.toNat p.pl) default)).length) })).set (Int.toNat c.pl) ({ (((outSt l c.pl).set (Int.toNat p.pl) ({ ((outSt l c.pl).getD (Int.toNat p.pl) default) with kids := (Nd.kids ((outSt l c.pl).getD (Int.toNat p.pl) default)).take ((Nd.kids ((outSt l c.pl).getD (Int.toNat p.pl) default)).length) ++ ([c.pl]) ++ (Nd.kids ((outSt l c.pl).getD (Int.toNat p.pl) default)).drop ((Nd.kids ((outSt l c.pl).getD (Int.toNat p.pl) default)).length) })).getD (Int.toNat c.pl) default) with par := p.pl }))) (rv_cell (V rfl) rfl Ga24 Sz24) ⟨Z, Ir⟩) (rv_tmp (V rfl)) rfl rfl (by show sv2 (SV.agg 1 (stG (((outSt l c.pl).set (Int.toNat p.pl) ({ ((outSt l c.pl).getD (Int.toNat p.pl) default) with kids := (Nd.kids ((outSt l c.pl).getD (Int.toNat p.pl) default)).take ((Nd.kids ((outSt l c.pl).getD (Int.toNat p.pl) default)).length) ++ ([c.pl]) ++ (Nd.kids ((outSt l c.pl).getD (Int.toNat p.pl) default)).drop ((Nd.kids ((outSt l c.pl).getD (Int.toNat p.pl) default)).length) })).set (Int.toNat c.pl) ({ (((outSt l c.pl).set (Int.toNat p.pl) ({ ((outSt l c.pl).getD (Int.toNat p.pl) default) with kids := (Nd.kids ((outSt l c.pl).getD (Int.toNat p.pl) default)).take ((Nd.kids ((outSt l c.pl).getD (Int.toNat p.pl) default)).length) ++ ([c.pl]) ++ (Nd.kids ((outSt l c.pl).getD (Int.toNat p.pl) default)).drop ((Nd.kids ((outSt l c.pl).getD (Int.toNat p.pl) default)).length) })).getD (Int.toNat c.pl) default) with par := p.pl })))) (iv (0)) = sv2 (SV.agg 1 (stG (insSt l p c ah).1)) (iv (insSt l p c ah).2); rw [ins_6 (by omega) hc2s hq3 hq4 hq5, insPos, if_neg (by omega)]; rfl)
end Go.Proofs.Ytmcdamcedemdiaa
namespace Go.Proofs.Ytmcdamcedemdiaa
open Go.RowKit Go.Eng
theorem cut_none {l : List Nd} (h : checkSt l = 0) {c q : Int} (hq : 0 ≤ q ∧ q < (l.length : Int)) (hne : q ≠ (l.getD c.toNat default).par) : (l.getD q.toNat default).kids.filter (fun x => !decide (x = c)) = (l.getD q.toNat default).kids := by
  rw [List.filter_eq_self]
  intro x hx
  have := (kid_up h hq hx).2.2.1
  simp only [Bool.not_eq_true', decide_eq_false_iff_not]
  rintro rfl
  exact hne this.symm
section
variable {l : List Nd} {p c : Hd} {ah : List Hd}
end
end Go.Proofs.Ytmcdamcedemdiaa
namespace Go.Proofs.Ytmcdamcedemdiaa
open Go.RowKit Go.Eng
theorem zero113 : ZeroOk Try.prog 113 6 (cmpG [iv 0, iv 0, iv 0, iv 0, iv 0, iv 0]) := by
  refine ⟨.agg #[.int .i64 0, .int .i64 0, .int .i64 0, .int .i64 0, .int .i64 0, .int .i64 0], fun w => by kernel_rfl, rfl, fun t ht => ?_⟩
  match t, ht with
  | 0, _ => exact ⟨_, rfl, rfl, fun _ _ => rfl⟩
  | 1, _ => exact ⟨_, rfl, rfl, fun _ _ => rfl⟩
  | 2, _ => exact ⟨_, rfl, rfl, fun _ _ => rfl⟩
  | 3, _ => exact ⟨_, rfl, rfl, fun _ _ => rfl⟩
  | 4, _ => exact ⟨_, rfl, rfl, fun _ _ => rfl⟩
  | 5, _ => exact ⟨_, rfl, rfl, fun _ _ => rfl⟩
theorem ta113 : Try.prog.underlying 113 = some (.array (Try.prog.arrayLen 113) (Try.prog.elem 113)) := by kernel_rfl
theorem te113 : ∀ w, (sizeOf (Try.prog.elem 113)).run Try.prog w = .ok 2 w := fun w => by kernel_rfl
theorem al113 : Try.prog.arrayLen 113 = 3 := by kernel_rfl
def nz : Nd := ⟨false, 0, 0, 0, -1, [], -1, false⟩
def fam0 : List Nd := [nz, nz, nz, nz, nz, nz]
def fam1 : List Nd := [⟨true, 1, 0, 0, -1, [], -1, false⟩, nz, nz, nz, nz, nz]
def fam2 : List Nd := [⟨true, 1, 0, 0, -1, [], -1, false⟩, ⟨true, 1, 1, 0, -1, [], -1, false⟩, nz, nz, nz, nz]
def fam3 : List Nd := [⟨true, 1, 0, 0, -1, [], -1, false⟩, ⟨true, 1, 1, 0, -1, [], -1, false⟩, ⟨true, 1, 2, 0, -1, [], -1, false⟩, nz, nz, nz]
def fam4 : List Nd := [⟨true, 1, 0, 0, -1, [1], -1, false⟩, ⟨true, 1, 1, 0, 0, [], -1, false⟩, ⟨true, 1, 2, 0, -1, [], -1, false⟩, nz, nz, nz]
def fam5 : List Nd := [⟨true, 1, 0, 0, -1, [2, 1], -1, false⟩, ⟨true, 1, 1, 0, 0, [], -1, false⟩, ⟨true, 1, 2, 0, 0, [], -1, false⟩, nz, nz, nz]
def famS : Nat → List Nd
  | 0 => fam0 | 1 => fam1 | 2 => fam2 | _ => fam3
def famH : Nat → Nat → SV
  | 0 => cmpG [iv 0, iv 0, iv 0, iv 0, iv 0, iv 0]
  | 1 => cmpG [iv 0, iv 1, iv 0, iv 0, iv 0, iv 0]
  | 2 => cmpG [iv 0, iv 1, iv 1, iv 1, iv 0, iv 0]
  | _ => cmpG [iv 0, iv 1, iv 1, iv 1, iv 2, iv 1]
theorem fam_0 : newSt 6 = (fam0, 0) := by decide +kernel
theorem fam_1 : mkSt fam0 0 = (fam1, ⟨0, 1⟩, 0) := by decide +kernel
theorem fam_2 : mkSt fam1 1 = (fam2, ⟨1, 1⟩, 0) := by decide +kernel
theorem fam_3 : mkSt fam2 2 = (fam3, ⟨2, 1⟩, 0) := by decide +kernel
theorem fam_4 : insSt fam3 ⟨0, 1⟩ ⟨1, 1⟩ [] = (fam4, 0) := by decide +kernel
theorem fam_5 : insSt fam4 ⟨0, 1⟩ ⟨2, 1⟩ [⟨1, 1⟩] = (fam5, 0) := by decide +kernel
theorem fam_c0 : checkSt fam0 = 0 := by decide +kernel
theorem fam_c1 : checkSt fam1 = 0 := by decide +kernel
theorem fam_c2 : checkSt fam2 = 0 := by decide +kernel
theorem fam_c3 : checkSt fam3 = 0 := by decide +kernel
theorem fam_c4 : checkSt fam4 = 0 := by decide +kernel
theorem fam_c5 : checkSt fam5 = 0 := by decide +kernel
end Go.Proofs.Ytmcdamcedemdiaa
namespace Go.Proofs.Ytmcdamcedemdiaa
open Go.RowKit Go.Eng
theorem famN : Ct Try.prog 47 [iv 6] (sv2 (SV.agg 1 (stG fam0)) (iv 0)) := by
  have h := new_ct 6
  rw [fam_0] at h
  exact h
theorem famM0 : Ct Try.prog 40 [SV.agg 1 (stG fam0), iv 0] (sv3 (SV.agg 1 (stG fam1)) (SV.agg 2 (hdCell ⟨0, 1⟩)) (iv 0)) := by
  have h := make_ct fam0 0 (kb_of fam_c0)
  rw [fam_1] at h
  exact h
theorem famM1 : Ct Try.prog 40 [SV.agg 1 (stG fam1), iv 1] (sv3 (SV.agg 1 (stG fam2)) (SV.agg 2 (hdCell ⟨1, 1⟩)) (iv 0)) := by
  have h := make_ct fam1 1 (kb_of fam_c1)
  rw [fam_2] at h
  exact h
theorem famM2 : Ct Try.prog 40 [SV.agg 1 (stG fam2), iv 2] (sv3 (SV.agg 1 (stG fam3)) (SV.agg 2 (hdCell ⟨2, 1⟩)) (iv 0)) := by
  have h := make_ct fam2 2 (kb_of fam_c2)
  rw [fam_3] at h
  exact h
theorem famI4 : Ct Try.prog 56 [SV.agg 1 (stG fam3), SV.agg 2 (hdCell ⟨0, 1⟩), SV.agg 2 (hdCell ⟨1, 1⟩), hdRow []] (sv2 (SV.agg 1 (stG fam4)) (iv 0)) := by
  have h := insert_ct fam3 ⟨0, 1⟩ ⟨1, 1⟩ [] (kb_of fam_c3)
  rw [fam_4] at h
  exact h
theorem famI5 : Ct Try.prog 56 [SV.agg 1 (stG fam4), SV.agg 2 (hdCell ⟨0, 1⟩), SV.agg 2 (hdCell ⟨2, 1⟩), hdRow [⟨1, 1⟩]] (sv2 (SV.agg 1 (stG fam5)) (iv 0)) := by
  have h := insert_ct fam4 ⟨0, 1⟩ ⟨2, 1⟩ [⟨1, 1⟩] (kb_of fam_c4)
  rw [fam_5] at h
  exact h
theorem family_ct  : Ct Try.prog 103 [] (sv3 (SV.agg 1 (stG fam5)) (SV.agg 6 (cmpG [iv (0), iv (1), iv (1), iv (1), iv (2), iv (1)])) (bv (true))) := by
 refine CtO 69 Try.func103 rfl rfl rfl fun E => Sq <| Rt <| Al 1 zero24 rfl rfl <| Al 2 zero113 rfl rfl <| U (As K) <| Nt <| Sq <| Rt <| CT en47 (by exact ⟨⟨K, rfl⟩, Z⟩) (famN) <| U (Mv (V rfl)) <| U (Xt (V rfl) (by decide)) <| U (Xt (V rfl) (by decide)) <| Al 3 zero24 rfl rfl <| StA (V rfl) rfl (V rfl) Sz24 <| U (As (V rfl)) <| Nt <| Sq <| Rq <| O (Mv (V rfl)) <| O (Ql (V rfl) K) <| O (As (V rfl)) <| Nq <| Sq <| Rt <| Al 4 zero113 rfl rfl <| Nt <| Sq <| Sq <| Rq <| O (Mv K) <| Nq <| Bo <| Lo (fun (i : Nat) => ⟨[(0, SV.bp 1 0), (1, SV.bp 2 0), (3, SV.bp 3 0), (5, bv (true)), (6, SV.bp 4 0), (14, iv ((i : Int)))], [(1, Own.box 1 (cmpG [SV.v (Value.slice none 0 0)]) 24), (2, Own.box 6 (cmpG [iv (0), iv (0), iv (0), iv (0), iv (0), iv (0)]) 113), (3, Own.box 1 (stG (famS i)) 24), (4, Own.box 6 (famH i) 113)]⟩) (fun (i : Nat) => i ≤ 3) (fun (i : Nat) => 3 - i) 0 (by show 0 ≤ 3; decide) (We (sl := [(0, SV.bp 1 0), (1, SV.bp 2 0), (3, SV.bp 3 0), (5, bv (true)), (6, SV.bp 4 0), (14, iv (0))]) (ow := [(1, Own.box 1 (cmpG [SV.v (Value.slice none 0 0)]) 24), (2, Own.box 6 (cmpG [iv (0), iv (0), iv (0), iv (0), iv (0), iv (0)]) 113), (3, Own.box 1 (stG (fam0)) 24), (4, Own.box 6 (famH 0) 113)]) (by exact ⟨V rfl, V rfl, V rfl, val_eq (V rfl) rfl, V rfl, V rfl, Z⟩) (by exact ⟨⟨_, rfl, rfl, rfl, (An rfl)⟩, ⟨_, rfl, rfl, rfl, (An rfl)⟩, ⟨_, rfl, rfl, rfl, (An rfl)⟩, ⟨_, rfl, rfl, rfl, (An rfl)⟩, Z⟩)) <| ?_
 ·rintro i hI1
  have hJ1 : i ≤ 3 := hI1
  rcases (show i = 0 ∨ i = 1 ∨ i = 2 ∨ i = 3 by omega) with rfl | rfl | rfl | rfl
  ·show C _ E _ ⟨[(0, SV.bp 1 0), (1, SV.bp 2 0), (3, SV.bp 3 0), (5, bv (true)), (6, SV.bp 4 0), (14, iv (0))], [(1, Own.box 1 (cmpG [SV.v (Value.slice none 0 0)]) 24), (2, Own.box 6 (cmpG [iv (0), iv (0), iv (0), iv (0), iv (0), iv (0)]) 113), (3, Own.box 1 (stG (fam0)) 24), (4, Own.box 6 (famH 0) 113)]⟩ _
   refine Sq <| Rq <| O (Lt (V rfl) K) <| Nq <| Sq <| Cd (V rfl) (fun hc1 => ?_) (fun hc1 => ?_)
   ·have hc1s := hc1; try simp only [BL] at hc1s
    exact Sk <| Sq <| Bo <| Sq <| Rq <| O (Mv (V rfl)) <| O (As (V rfl)) <| Nq <| Sq <| Rt <| U (Mv (V rfl)) <| U (LBA (V rfl) rfl Ga24 Sz24 (by decide)) <| U (Mv (V rfl)) <| CT en40 (by exact ⟨⟨(Vi (g' := stG fam0) (V rfl) ⟨Z, Ir⟩), rfl⟩, ⟨(V rfl), rfl⟩, Z⟩) (famM0) <| U (Mv (V rfl)) <| U (Xt (V rfl) (by decide)) <| U (Xt (V rfl) (by decide)) <| U (Xt (V rfl) (by decide)) <| StA (V rfl) rfl (V rfl) Sz24 <| U (q_ixB (i := 0) (V rfl) (V rfl) ta113 te113 (by rw [al113]; decide)) <| t_stP (fun zt => ([iv (0), iv (1), iv (0), iv (0), iv (0), iv (0)] : List SV).getD zt .junk) (V rfl) rfl (V rfl) Sz26 (by decide) (An rfl) <| U (As (V rfl)) <| Nt <| Rq <| O (Mv (V rfl)) <| O (Mv (V rfl)) <| Og (Gy rfl rfl) (fun hg => Mv (V rfl)) <| Og (Gy rfl rfl) (fun hg => Ql (Vg (V rfl) hg) K) <| O (Qa (V rfl) (fun h => Vg (V rfl) h)) <| O (As (V rfl)) <| Nq <| Rq <| O (Ad (V rfl) K (by omega)) <| O (Mv (V rfl)) <| Nq <| Nx (1) (by show 1 ≤ 3; decide) (by show 3 - 1 < 3 - 0; decide) (We (sl := [(0, SV.bp 1 0), (1, SV.bp 2 0), (3, SV.bp 3 0), (5, bv (true)), (6, SV.bp 4 0), (14, iv (1))]) (ow := [(1, Own.box 1 (cmpG [SV.v (Value.slice none 0 0)]) 24), (2, Own.box 6 (cmpG [iv (0), iv (0), iv (0), iv (0), iv (0), iv (0)]) 113), (3, Own.box 1 (stG (fam1)) 24), (4, Own.box 6 (famH 1) 113)]) (by exact ⟨V rfl, V rfl, V rfl, val_eq (V rfl) rfl, V rfl, V rfl, Z⟩) (by exact ⟨⟨_, rfl, rfl, rfl, (An rfl)⟩, ⟨_, rfl, rfl, rfl, (An rfl)⟩, ⟨_, rfl, rfl, rfl, (An rfl)⟩, ⟨_, rfl, rfl, rfl, (An rfl)⟩, Z⟩))
   ·exact absurd hc1 (by decide)
  ·show C _ E _ ⟨[(0, SV.bp 1 0), (1, SV.bp 2 0), (3, SV.bp 3 0), (5, bv (true)), (6, SV.bp 4 0), (14, iv (1))], [(1, Own.box 1 (cmpG [SV.v (Value.slice none 0 0)]) 24), (2, Own.box 6 (cmpG [iv (0), iv (0), iv (0), iv (0), iv (0), iv (0)]) 113), (3, Own.box 1 (stG (fam1)) 24), (4, Own.box 6 (famH 1) 113)]⟩ _
   refine Sq <| Rq <| O (Lt (V rfl) K) <| Nq <| Sq <| Cd (V rfl) (fun hc2 => ?_) (fun hc2 => ?_)
   ·have hc2s := hc2; try simp only [BL] at hc2s
    exact Sk <| Sq <| Bo <| Sq <| Rq <| O (Mv (V rfl)) <| O (As (V rfl)) <| Nq <| Sq <| Rt <| U (Mv (V rfl)) <| U (LBA (V rfl) rfl Ga24 Sz24 (by decide)) <| U (Mv (V rfl)) <| CT en40 (by exact ⟨⟨(Vi (g' := stG fam1) (V rfl) ⟨Z, Ir⟩), rfl⟩, ⟨(V rfl), rfl⟩, Z⟩) (famM1) <| U (Mv (V rfl)) <| U (Xt (V rfl) (by decide)) <| U (Xt (V rfl) (by decide)) <| U (Xt (V rfl) (by decide)) <| StA (V rfl) rfl (V rfl) Sz24 <| U (q_ixB (i := 1) (V rfl) (V rfl) ta113 te113 (by rw [al113]; decide)) <| t_stP (fun zt => ([iv (0), iv (1), iv (1), iv (1), iv (0), iv (0)] : List SV).getD zt .junk) (V rfl) rfl (V rfl) Sz26 (by decide) (An rfl) <| U (As (V rfl)) <| Nt <| Rq <| O (Mv (V rfl)) <| O (Mv (V rfl)) <| Og (Gy rfl rfl) (fun hg => Mv (V rfl)) <| Og (Gy rfl rfl) (fun hg => Ql (Vg (V rfl) hg) K) <| O (Qa (V rfl) (fun h => Vg (V rfl) h)) <| O (As (V rfl)) <| Nq <| Rq <| O (Ad (V rfl) K (by omega)) <| O (Mv (V rfl)) <| Nq <| Nx (2) (by show 2 ≤ 3; decide) (by show 3 - 2 < 3 - 1; decide) (We (sl := [(0, SV.bp 1 0), (1, SV.bp 2 0), (3, SV.bp 3 0), (5, bv (true)), (6, SV.bp 4 0), (14, iv (2))]) (ow := [(1, Own.box 1 (cmpG [SV.v (Value.slice none 0 0)]) 24), (2, Own.box 6 (cmpG [iv (0), iv (0), iv (0), iv (0), iv (0), iv (0)]) 113), (3, Own.box 1 (stG (fam2)) 24), (4, Own.box 6 (famH 2) 113)]) (by exact ⟨V rfl, V rfl, V rfl, val_eq (V rfl) rfl, V rfl, V rfl, Z⟩) (by exact ⟨⟨_, rfl, rfl, rfl, (An rfl)⟩, ⟨_, rfl, rfl, rfl, (An rfl)⟩, ⟨_, rfl, rfl, rfl, (An rfl)⟩, ⟨_, rfl, rfl, rfl, (An rfl)⟩, Z⟩))
   ·exact absurd hc2 (by decide)
  ·show C _ E _ ⟨[(0, SV.bp 1 0), (1, SV.bp 2 0), (3, SV.bp 3 0), (5, bv (true)), (6, SV.bp 4 0), (14, iv (2))], [(1, Own.box 1 (cmpG [SV.v (Value.slice none 0 0)]) 24), (2, Own.box 6 (cmpG [iv (0), iv (0), iv (0), iv (0), iv (0), iv (0)]) 113), (3, Own.box 1 (stG (fam2)) 24), (4, Own.box 6 (famH 2) 113)]⟩ _
   refine Sq <| Rq <| O (Lt (V rfl) K) <| Nq <| Sq <| Cd (V rfl) (fun hc3 => ?_) (fun hc3 => ?_)
   ·have hc3s := hc3; try simp only [BL] at hc3s
    exact Sk <| Sq <| Bo <| Sq <| Rq <| O (Mv (V rfl)) <| O (As (V rfl)) <| Nq <| Sq <| Rt <| U (Mv (V rfl)) <| U (LBA (V rfl) rfl Ga24 Sz24 (by decide)) <| U (Mv (V rfl)) <| CT en40 (by exact ⟨⟨(Vi (g' := stG fam2) (V rfl) ⟨Z, Ir⟩), rfl⟩, ⟨(V rfl), rfl⟩, Z⟩) (famM2) <| U (Mv (V rfl)) <| U (Xt (V rfl) (by decide)) <| U (Xt (V rfl) (by decide)) <| U (Xt (V rfl) (by decide)) <| StA (V rfl) rfl (V rfl) Sz24 <| U (q_ixB (i := 2) (V rfl) (V rfl) ta113 te113 (by rw [al113]; decide)) <| t_stP (fun zt => ([iv (0), iv (1), iv (1), iv (1), iv (2), iv (1)] : List SV).getD zt .junk) (V rfl) rfl (V rfl) Sz26 (by decide) (An rfl) <| U (As (V rfl)) <| Nt <| Rq <| O (Mv (V rfl)) <| O (Mv (V rfl)) <| Og (Gy rfl rfl) (fun hg => Mv (V rfl)) <| Og (Gy rfl rfl) (fun hg => Ql (Vg (V rfl) hg) K) <| O (Qa (V rfl) (fun h => Vg (V rfl) h)) <| O (As (V rfl)) <| Nq <| Rq <| O (Ad (V rfl) K (by omega)) <| O (Mv (V rfl)) <| Nq <| Nx (3) (by show 3 ≤ 3; decide) (by show 3 - 3 < 3 - 2; decide) (We (sl := [(0, SV.bp 1 0), (1, SV.bp 2 0), (3, SV.bp 3 0), (5, bv (true)), (6, SV.bp 4 0), (14, iv (3))]) (ow := [(1, Own.box 1 (cmpG [SV.v (Value.slice none 0 0)]) 24), (2, Own.box 6 (cmpG [iv (0), iv (0), iv (0), iv (0), iv (0), iv (0)]) 113), (3, Own.box 1 (stG (fam3)) 24), (4, Own.box 6 (famH 3) 113)]) (by exact ⟨V rfl, V rfl, V rfl, val_eq (V rfl) rfl, V rfl, V rfl, Z⟩) (by exact ⟨⟨_, rfl, rfl, rfl, (An rfl)⟩, ⟨_, rfl, rfl, rfl, (An rfl)⟩, ⟨_, rfl, rfl, rfl, (An rfl)⟩, ⟨_, rfl, rfl, rfl, (An rfl)⟩, Z⟩))
   ·exact absurd hc3 (by decide)
  ·show C _ E _ ⟨[(0, SV.bp 1 0), (1, SV.bp 2 0), (3, SV.bp 3 0), (5, bv (true)), (6, SV.bp 4 0), (14, iv (3))], [(1, Own.box 1 (cmpG [SV.v (Value.slice none 0 0)]) 24), (2, Own.box 6 (cmpG [iv (0), iv (0), iv (0), iv (0), iv (0), iv (0)]) 113), (3, Own.box 1 (stG (fam3)) 24), (4, Own.box 6 (famH 3) 113)]⟩ _
   refine Sq <| Rq <| O (Lt (V rfl) K) <| Nq <| Sq <| Cd (V rfl) (fun hc4 => ?_) (fun hc4 => ?_)
   ·exact absurd hc4 (by decide)
   ·have hc4s := hc4; try simp only [BL] at hc4s
    refine Ex <| Sq <| Rt <| U (LBA (V rfl) rfl Ga24 Sz24 (by decide)) <| U (q_ixB (i := 0) (V rfl) K ta113 te113 (by rw [al113]; decide)) <| U (LBA (V rfl) rfl Ga26 Sz26 (by decide)) <| U (q_ixB (i := 1) (V rfl) K ta113 te113 (by rw [al113]; decide)) <| U (LBA (V rfl) rfl Ga26 Sz26 (by decide)) <| CT en56 (by exact ⟨⟨(Vi (g' := stG fam3) (V rfl) ⟨Z, Ir⟩), rfl⟩, ⟨(Vi (g' := hdCell ⟨0, 1⟩) (V rfl) ⟨⟨Z, Ir⟩, Ir⟩), rfl⟩, ⟨(Vi (g' := hdCell ⟨1, 1⟩) (V rfl) ⟨⟨Z, Ir⟩, Ir⟩), rfl⟩, ⟨Vn, rfl⟩, Z⟩) (famI4) <| U (Mv (V rfl)) <| U (Xt (V rfl) (by decide)) <| U (Xt (V rfl) (by decide)) <| StA (V rfl) rfl (V rfl) Sz24 <| U (As (V rfl)) <| Nt <| Sq <| Rq <| O (Mv (V rfl)) <| O (Mv (V rfl)) <| Og (Gy rfl rfl) (fun hg => Mv (V rfl)) <| Og (Gy rfl rfl) (fun hg => Ql (Vg (V rfl) hg) K) <| O (Qa (V rfl) (fun h => Vg (V rfl) h)) <| O (As (V rfl)) <| Nq <| Sq <| c_frzB 4 [iv (0), iv (1), iv (1), iv (1), iv (2), iv (1)] rfl rfl ⟨⟨⟨⟨⟨⟨Z, rfl⟩, rfl⟩, rfl⟩, rfl⟩, rfl⟩, rfl⟩ rfl <| c_rd (fun e => ⟨[(47, cj (e 0) (SV.agg 1 (fun zi => (stG fam4) (0 + zi)))), (48, cj (e 1) (elB [iv (0), iv (1), iv (1), iv (1), iv (2), iv (1)] 0)), (49, cj (e 2) (SV.agg 2 (fun zi => (fun zt => ([iv (0), iv (1), iv (1), iv (1), iv (2), iv (1)] : List SV).getD zt .junk) (0 + zi)))), (50, cj (e 3) (elB [iv (0), iv (1), iv (1), iv (1), iv (2), iv (1)] 4)), (51, cj (e 4) (SV.agg 2 (fun zi => (fun zt => ([iv (0), iv (1), iv (1), iv (1), iv (2), iv (1)] : List SV).getD zt .junk) (4 + zi)))), (52, cj (e 5) (hdRow ([⟨1, 1⟩]))), (53, cj (e 6) (sv2 (SV.agg 1 (stG fam5)) (iv (0)))), (46, cj (e 7) (sv2 (SV.agg 1 (stG fam5)) (iv (0)))), (54, cj (e 8) (SV.agg 1 (stG fam5))), (55, cj (e 9) (iv (0))), (4, cj (e 11) (iv (0))), (0, SV.bp 1 0), (1, SV.bp 2 0), (3, SV.bp 3 0), (5, bv (true && (decide ((0 : Int) = 0)))), (6, elB [iv (0), iv (1), iv (1), iv (1), iv (2), iv (1)] 0)], (cb (e 10) [(1, Own.box 1 (cmpG [SV.v (Value.slice none 0 0)]) 24), (2, Own.box 6 (cmpG [iv (0), iv (0), iv (0), iv (0), iv (0), iv (0)]) 113), (3, Own.box 1 (stG fam5) 24)] [(1, Own.box 1 (cmpG [SV.v (Value.slice none 0 0)]) 24), (2, Own.box 6 (cmpG [iv (0), iv (0), iv (0), iv (0), iv (0), iv (0)]) 113), (3, Own.box 1 (stG fam4) 24)])⟩) ⟨[(47, SV.agg 1 (fun zi => (stG fam4) (0 + zi))), (48, elB [iv (0), iv (1), iv (1), iv (1), iv (2), iv (1)] 0), (49, SV.agg 2 (fun zi => (fun zt => ([iv (0), iv (1), iv (1), iv (1), iv (2), iv (1)] : List SV).getD zt .junk) (0 + zi))), (50, elB [iv (0), iv (1), iv (1), iv (1), iv (2), iv (1)] 4), (51, SV.agg 2 (fun zi => (fun zt => ([iv (0), iv (1), iv (1), iv (1), iv (2), iv (1)] : List SV).getD zt .junk) (4 + zi))), (52, hdRow ([⟨1, 1⟩])), (53, sv2 (SV.agg 1 (stG fam5)) (iv (0))), (46, sv2 (SV.agg 1 (stG fam5)) (iv (0))), (54, SV.agg 1 (stG fam5)), (55, iv (0)), (4, iv (0)), (0, SV.bp 1 0), (1, SV.bp 2 0), (3, SV.bp 3 0), (5, bv (true && (decide ((0 : Int) = 0)))), (6, elB [iv (0), iv (1), iv (1), iv (1), iv (2), iv (1)] 0)], [(1, Own.box 1 (cmpG [SV.v (Value.slice none 0 0)]) 24), (2, Own.box 6 (cmpG [iv (0), iv (0), iv (0), iv (0), iv (0), iv (0)]) 113), (3, Own.box 1 (stG fam5) 24)]⟩ (by kernel_rfl) (by kernel_rfl) ?_ ⟨?_, ?_, ?_, ?_, ?_, ?_, ?_, ?_, ?_, ?_, ?_, ?_, Z⟩ ?_ ?_
    ·show Weak _ _ ⟨[(47, SV.junk), (48, SV.junk), (49, SV.junk), (50, SV.junk), (51, SV.junk), (52, SV.junk), (53, SV.junk), (46, SV.junk), (54, SV.junk), (55, SV.junk), (4, SV.junk), (0, SV.bp 1 0), (1, SV.bp 2 0), (3, SV.bp 3 0), (5, bv (true && (decide ((0 : Int) = 0)))), (6, elB [iv (0), iv (1), iv (1), iv (1), iv (2), iv (1)] 0)], [(1, Own.box 1 (cmpG [SV.v (Value.slice none 0 0)]) 24), (2, Own.box 6 (cmpG [iv (0), iv (0), iv (0), iv (0), iv (0), iv (0)]) 113), (3, Own.box 1 (stG fam4) 24)]⟩
     refine We ?_ ?_
     ·exact ⟨Vj, Vj, Vj, Vj, Vj, Vj, Vj, Vj, Vj, Vj, Vj, V rfl, V rfl, V rfl, V rfl, V rfl, Z⟩
     ·exact ⟨⟨_, rfl, ⟨rfl, rfl, (An rfl)⟩⟩, ⟨_, rfl, ⟨rfl, rfl, (An rfl)⟩⟩, ⟨_, rfl, ⟨rfl, rfl, (An rfl)⟩⟩, Z⟩
    ·intro e hdn he hdp
     have h10 : e 10 = false := fls he fun q => by obtain ⟨r8, -, -, -, -, -, -, -, -, -, -, -⟩ := (show e 8 = true ∧ e 6 = true ∧ e 0 = true ∧ e 1 = true ∧ e 2 = true ∧ e 3 = true ∧ e 4 = true ∧ e 5 = true ∧ e 6 = true ∧ e 7 = true ∧ e 8 = true ∧ True from hdn 10 q); obtain ⟨r7, -⟩ := (show e 7 = true ∧ True from hdn 8 r8); obtain ⟨r6, -⟩ := (show e 6 = true ∧ True from hdn 7 r7); obtain ⟨r0, -, -, -, -⟩ := (show e 0 = true ∧ e 2 = true ∧ e 4 = true ∧ e 5 = true ∧ True from hdn 6 r6); exact r0
     simp only [setE, he, h10, cj_t, cj_f, cjn_t, cjn_f, cb_t, cb_f]
     refine U (LBA (V rfl) rfl Ga24 Sz24 (by decide)) <| Nt <| We ?_ ?_
     ·exact ⟨V rfl, V rfl, V rfl, V rfl, V rfl, V rfl, V rfl, V rfl, V rfl, V rfl, V rfl, V rfl, V rfl, V rfl, V rfl, V rfl, Z⟩
     ·exact ⟨⟨_, rfl, ⟨rfl, rfl, (An rfl)⟩⟩, ⟨_, rfl, ⟨rfl, rfl, (An rfl)⟩⟩, ⟨_, rfl, ⟨rfl, rfl, (An rfl)⟩⟩, Z⟩
    ·intro e hdn he hdp
     have h10 : e 10 = false := fls he fun q => by obtain ⟨r8, -, -, -, -, -, -, -, -, -, -, -⟩ := (show e 8 = true ∧ e 6 = true ∧ e 0 = true ∧ e 1 = true ∧ e 2 = true ∧ e 3 = true ∧ e 4 = true ∧ e 5 = true ∧ e 6 = true ∧ e 7 = true ∧ e 8 = true ∧ True from hdn 10 q); obtain ⟨r7, -⟩ := (show e 7 = true ∧ True from hdn 8 r8); obtain ⟨r6, -⟩ := (show e 6 = true ∧ True from hdn 7 r7); obtain ⟨-, r2, -, -, -⟩ := (show e 0 = true ∧ e 2 = true ∧ e 4 = true ∧ e 5 = true ∧ True from hdn 6 r6); obtain ⟨r1, -⟩ := (show e 1 = true ∧ True from hdn 2 r2); exact r1
     simp only [setE, he, h10, cj_t, cj_f, cjn_t, cjn_f, cb_t, cb_f]
     refine U (q_ixE (i := 0) (V rfl) K ta113 te113 (by rw [al113]; decide)) <| Nt <| We ?_ ?_
     ·exact ⟨V rfl, V rfl, V rfl, V rfl, V rfl, V rfl, V rfl, V rfl, V rfl, V rfl, V rfl, V rfl, V rfl, V rfl, V rfl, V rfl, Z⟩
     ·exact ⟨⟨_, rfl, ⟨rfl, rfl, (An rfl)⟩⟩, ⟨_, rfl, ⟨rfl, rfl, (An rfl)⟩⟩, ⟨_, rfl, ⟨rfl, rfl, (An rfl)⟩⟩, Z⟩
    ·intro e hdn he hdp
     obtain ⟨h1, -⟩ := (show e 1 = true ∧ True from hdp)
     have h10 : e 10 = false := fls he fun q => by obtain ⟨r8, -, -, -, -, -, -, -, -, -, -, -⟩ := (show e 8 = true ∧ e 6 = true ∧ e 0 = true ∧ e 1 = true ∧ e 2 = true ∧ e 3 = true ∧ e 4 = true ∧ e 5 = true ∧ e 6 = true ∧ e 7 = true ∧ e 8 = true ∧ True from hdn 10 q); obtain ⟨r7, -⟩ := (show e 7 = true ∧ True from hdn 8 r8); obtain ⟨r6, -⟩ := (show e 6 = true ∧ True from hdn 7 r7); obtain ⟨-, r2, -, -, -⟩ := (show e 0 = true ∧ e 2 = true ∧ e 4 = true ∧ e 5 = true ∧ True from hdn 6 r6); exact r2
     simp only [setE, h1, he, h10, cj_t, cj_f, cjn_t, cjn_f, cb_t, cb_f]
     refine U (LdA (V rfl) Ga26 Sz26 (by show 0 + 2 ≤ 6; decide)) <| Nt <| We ?_ ?_
     ·exact ⟨V rfl, V rfl, V rfl, V rfl, V rfl, V rfl, V rfl, V rfl, V rfl, V rfl, V rfl, V rfl, V rfl, V rfl, V rfl, V rfl, Z⟩
     ·exact ⟨⟨_, rfl, ⟨rfl, rfl, (An rfl)⟩⟩, ⟨_, rfl, ⟨rfl, rfl, (An rfl)⟩⟩, ⟨_, rfl, ⟨rfl, rfl, (An rfl)⟩⟩, Z⟩
    ·intro e hdn he hdp
     have h10 : e 10 = false := fls he fun q => by obtain ⟨r8, -, -, -, -, -, -, -, -, -, -, -⟩ := (show e 8 = true ∧ e 6 = true ∧ e 0 = true ∧ e 1 = true ∧ e 2 = true ∧ e 3 = true ∧ e 4 = true ∧ e 5 = true ∧ e 6 = true ∧ e 7 = true ∧ e 8 = true ∧ True from hdn 10 q); obtain ⟨r7, -⟩ := (show e 7 = true ∧ True from hdn 8 r8); obtain ⟨r6, -⟩ := (show e 6 = true ∧ True from hdn 7 r7); obtain ⟨-, -, r4, -, -⟩ := (show e 0 = true ∧ e 2 = true ∧ e 4 = true ∧ e 5 = true ∧ True from hdn 6 r6); obtain ⟨r3, -⟩ := (show e 3 = true ∧ True from hdn 4 r4); exact r3
     simp only [setE, he, h10, cj_t, cj_f, cjn_t, cjn_f, cb_t, cb_f]
     refine U (q_ixE (i := 2) (V rfl) K ta113 te113 (by rw [al113]; decide)) <| Nt <| We ?_ ?_
     ·exact ⟨V rfl, V rfl, V rfl, V rfl, V rfl, V rfl, V rfl, V rfl, V rfl, V rfl, V rfl, V rfl, V rfl, V rfl, V rfl, V rfl, Z⟩
     ·exact ⟨⟨_, rfl, ⟨rfl, rfl, (An rfl)⟩⟩, ⟨_, rfl, ⟨rfl, rfl, (An rfl)⟩⟩, ⟨_, rfl, ⟨rfl, rfl, (An rfl)⟩⟩, Z⟩
    ·intro e hdn he hdp
     obtain ⟨h3, -⟩ := (show e 3 = true ∧ True from hdp)
     have h10 : e 10 = false := fls he fun q => by obtain ⟨r8, -, -, -, -, -, -, -, -, -, -, -⟩ := (show e 8 = true ∧ e 6 = true ∧ e 0 = true ∧ e 1 = true ∧ e 2 = true ∧ e 3 = true ∧ e 4 = true ∧ e 5 = true ∧ e 6 = true ∧ e 7 = true ∧ e 8 = true ∧ True from hdn 10 q); obtain ⟨r7, -⟩ := (show e 7 = true ∧ True from hdn 8 r8); obtain ⟨r6, -⟩ := (show e 6 = true ∧ True from hdn 7 r7); obtain ⟨-, -, r4, -, -⟩ := (show e 0 = true ∧ e 2 = true ∧ e 4 = true ∧ e 5 = true ∧ True from hdn 6 r6); exact r4
     simp only [setE, h3, he, h10, cj_t, cj_f, cjn_t, cjn_f, cb_t, cb_f]
     refine U (LdA (V rfl) Ga26 Sz26 (by show 4 + 2 ≤ 6; decide)) <| Nt <| We ?_ ?_
     ·exact ⟨V rfl, V rfl, V rfl, V rfl, V rfl, V rfl, V rfl, V rfl, V rfl, V rfl, V rfl, V rfl, V rfl, V rfl, V rfl, V rfl, Z⟩
     ·exact ⟨⟨_, rfl, ⟨rfl, rfl, (An rfl)⟩⟩, ⟨_, rfl, ⟨rfl, rfl, (An rfl)⟩⟩, ⟨_, rfl, ⟨rfl, rfl, (An rfl)⟩⟩, Z⟩
    ·intro e hdn he hdp
     have h10 : e 10 = false := fls he fun q => by obtain ⟨r8, -, -, -, -, -, -, -, -, -, -, -⟩ := (show e 8 = true ∧ e 6 = true ∧ e 0 = true ∧ e 1 = true ∧ e 2 = true ∧ e 3 = true ∧ e 4 = true ∧ e 5 = true ∧ e 6 = true ∧ e 7 = true ∧ e 8 = true ∧ True from hdn 10 q); obtain ⟨r7, -⟩ := (show e 7 = true ∧ True from hdn 8 r8); obtain ⟨r6, -⟩ := (show e 6 = true ∧ True from hdn 7 r7); obtain ⟨-, -, -, r5, -⟩ := (show e 0 = true ∧ e 2 = true ∧ e 4 = true ∧ e 5 = true ∧ True from hdn 6 r6); exact r5
     simp only [setE, he, h10, cj_t, cj_f, cjn_t, cjn_f, cb_t, cb_f]
     refine U (q_slA (cell := hdCell) (d := default) (k := 2) (l := 1) (h := 2) [⟨1, 1⟩] ta113 te113 (V rfl) K K (by decide) (by rw [al113]; decide) (by rw [al113]; decide) (by rw [al113]; decide) rfl (fun i hi => match i, hi with | 0, _ => An rfl)) <| Nt <| We ?_ ?_
     ·exact ⟨V rfl, V rfl, V rfl, V rfl, V rfl, V rfl, V rfl, V rfl, V rfl, V rfl, V rfl, V rfl, V rfl, V rfl, V rfl, V rfl, Z⟩
     ·exact ⟨⟨_, rfl, ⟨rfl, rfl, (An rfl)⟩⟩, ⟨_, rfl, ⟨rfl, rfl, (An rfl)⟩⟩, ⟨_, rfl, ⟨rfl, rfl, (An rfl)⟩⟩, Z⟩
    ·intro e hdn he hdp
     obtain ⟨h0, h2, h4, h5, -⟩ := (show e 0 = true ∧ e 2 = true ∧ e 4 = true ∧ e 5 = true ∧ True from hdp)
     obtain ⟨h3, -⟩ := (show e 3 = true ∧ True from hdn 4 h4)
     obtain ⟨h1, -⟩ := (show e 1 = true ∧ True from hdn 2 h2)
     have h10 : e 10 = false := fls he fun q => by obtain ⟨r8, -, -, -, -, -, -, -, -, -, -, -⟩ := (show e 8 = true ∧ e 6 = true ∧ e 0 = true ∧ e 1 = true ∧ e 2 = true ∧ e 3 = true ∧ e 4 = true ∧ e 5 = true ∧ e 6 = true ∧ e 7 = true ∧ e 8 = true ∧ True from hdn 10 q); obtain ⟨r7, -⟩ := (show e 7 = true ∧ True from hdn 8 r8); obtain ⟨r6, -⟩ := (show e 6 = true ∧ True from hdn 7 r7); exact r6
     simp only [setE, h0, h1, h2, h3, h4, h5, he, h10, cj_t, cj_f, cjn_t, cjn_f, cb_t, cb_f]
     refine CT en56 (by exact ⟨⟨(Vi (g' := stG fam4) (V rfl) ⟨Z, Ir⟩), rfl⟩, ⟨(Vi (g' := hdCell ⟨0, 1⟩) (V rfl) ⟨⟨Z, Ir⟩, Ir⟩), rfl⟩, ⟨(Vi (g' := hdCell ⟨2, 1⟩) (V rfl) ⟨⟨Z, Ir⟩, Ir⟩), rfl⟩, ⟨(V rfl), rfl⟩, Z⟩) (famI5) <| Nt <| We ?_ ?_
     ·exact ⟨V rfl, V rfl, V rfl, V rfl, V rfl, V rfl, V rfl, V rfl, V rfl, V rfl, V rfl, V rfl, V rfl, V rfl, V rfl, V rfl, Z⟩
     ·exact ⟨⟨_, rfl, ⟨rfl, rfl, (An rfl)⟩⟩, ⟨_, rfl, ⟨rfl, rfl, (An rfl)⟩⟩, ⟨_, rfl, ⟨rfl, rfl, (An rfl)⟩⟩, Z⟩
    ·intro e hdn he hdp
     obtain ⟨h6, -⟩ := (show e 6 = true ∧ True from hdp)
     obtain ⟨h0, h2, h4, h5, -⟩ := (show e 0 = true ∧ e 2 = true ∧ e 4 = true ∧ e 5 = true ∧ True from hdn 6 h6)
     obtain ⟨h3, -⟩ := (show e 3 = true ∧ True from hdn 4 h4)
     obtain ⟨h1, -⟩ := (show e 1 = true ∧ True from hdn 2 h2)
     have h10 : e 10 = false := fls he fun q => by obtain ⟨r8, -, -, -, -, -, -, -, -, -, -, -⟩ := (show e 8 = true ∧ e 6 = true ∧ e 0 = true ∧ e 1 = true ∧ e 2 = true ∧ e 3 = true ∧ e 4 = true ∧ e 5 = true ∧ e 6 = true ∧ e 7 = true ∧ e 8 = true ∧ True from hdn 10 q); obtain ⟨r7, -⟩ := (show e 7 = true ∧ True from hdn 8 r8); exact r7
     simp only [setE, h0, h1, h2, h3, h4, h5, h6, he, h10, cj_t, cj_f, cjn_t, cjn_f, cb_t, cb_f]
     refine U (Mv (V rfl)) <| Nt <| We ?_ ?_
     ·exact ⟨V rfl, V rfl, V rfl, V rfl, V rfl, V rfl, V rfl, V rfl, V rfl, V rfl, V rfl, V rfl, V rfl, V rfl, V rfl, V rfl, Z⟩
     ·exact ⟨⟨_, rfl, ⟨rfl, rfl, (An rfl)⟩⟩, ⟨_, rfl, ⟨rfl, rfl, (An rfl)⟩⟩, ⟨_, rfl, ⟨rfl, rfl, (An rfl)⟩⟩, Z⟩
    ·intro e hdn he hdp
     obtain ⟨h7, -⟩ := (show e 7 = true ∧ True from hdp)
     obtain ⟨h6, -⟩ := (show e 6 = true ∧ True from hdn 7 h7)
     obtain ⟨h0, h2, h4, h5, -⟩ := (show e 0 = true ∧ e 2 = true ∧ e 4 = true ∧ e 5 = true ∧ True from hdn 6 h6)
     obtain ⟨h3, -⟩ := (show e 3 = true ∧ True from hdn 4 h4)
     obtain ⟨h1, -⟩ := (show e 1 = true ∧ True from hdn 2 h2)
     have h10 : e 10 = false := fls he fun q => by obtain ⟨r8, -, -, -, -, -, -, -, -, -, -, -⟩ := (show e 8 = true ∧ e 6 = true ∧ e 0 = true ∧ e 1 = true ∧ e 2 = true ∧ e 3 = true ∧ e 4 = true ∧ e 5 = true ∧ e 6 = true ∧ e 7 = true ∧ e 8 = true ∧ True from hdn 10 q); exact r8
     simp only [setE, h0, h1, h2, h3, h4, h5, h6, h7, he, h10, cj_t, cj_f, cjn_t, cjn_f, cb_t, cb_f]
     refine U (Xt (V rfl) (by decide)) <| Nt <| We ?_ ?_
     ·exact ⟨V rfl, V rfl, V rfl, V rfl, V rfl, V rfl, V rfl, V rfl, V rfl, V rfl, V rfl, V rfl, V rfl, V rfl, V rfl, V rfl, Z⟩
     ·exact ⟨⟨_, rfl, ⟨rfl, rfl, (An rfl)⟩⟩, ⟨_, rfl, ⟨rfl, rfl, (An rfl)⟩⟩, ⟨_, rfl, ⟨rfl, rfl, (An rfl)⟩⟩, Z⟩
    ·intro e hdn he hdp
     obtain ⟨h7, -⟩ := (show e 7 = true ∧ True from hdp)
     obtain ⟨h6, -⟩ := (show e 6 = true ∧ True from hdn 7 h7)
     obtain ⟨h0, h2, h4, h5, -⟩ := (show e 0 = true ∧ e 2 = true ∧ e 4 = true ∧ e 5 = true ∧ True from hdn 6 h6)
     obtain ⟨h3, -⟩ := (show e 3 = true ∧ True from hdn 4 h4)
     obtain ⟨h1, -⟩ := (show e 1 = true ∧ True from hdn 2 h2)
     simp only [setE, h0, h1, h2, h3, h4, h5, h6, h7, he, cj_t, cj_f, cjn_t, cjn_f, cb_t, cb_f]
     exact U (Xt (V rfl) (by decide)) <| Nt <| weakS ⟨V rfl, V rfl, V rfl, V rfl, V rfl, V rfl, V rfl, V rfl, V rfl, V rfl, V rfl, V rfl, V rfl, V rfl, V rfl, V rfl, Z⟩
    ·intro e hdn he hdp
     obtain ⟨h8, h6, h0, h1, h2, h3, h4, h5, -, h7, -, -⟩ := (show e 8 = true ∧ e 6 = true ∧ e 0 = true ∧ e 1 = true ∧ e 2 = true ∧ e 3 = true ∧ e 4 = true ∧ e 5 = true ∧ e 6 = true ∧ e 7 = true ∧ e 8 = true ∧ True from hdp)
     simp only [setE, h0, h1, h2, h3, h4, h5, h6, h7, h8, he, cj_t, cj_f, cjn_t, cjn_f, cb_t, cb_f]
     refine StA (V rfl) rfl (V rfl) Sz24 <| Nt <| We ?_ ?_
     ·exact ⟨V rfl, V rfl, V rfl, V rfl, V rfl, V rfl, V rfl, V rfl, V rfl, V rfl, V rfl, V rfl, V rfl, V rfl, V rfl, V rfl, Z⟩
     ·exact ⟨⟨_, rfl, ⟨rfl, rfl, (An rfl)⟩⟩, ⟨_, rfl, ⟨rfl, rfl, (An rfl)⟩⟩, ⟨_, rfl, ⟨rfl, rfl, (An rfl)⟩⟩, Z⟩
    ·intro e hdn he hdp
     obtain ⟨h9, h10, h0, h1, h2, h3, h4, h5, h6, h7, h8, -, -, -⟩ := (show e 9 = true ∧ e 10 = true ∧ e 0 = true ∧ e 1 = true ∧ e 2 = true ∧ e 3 = true ∧ e 4 = true ∧ e 5 = true ∧ e 6 = true ∧ e 7 = true ∧ e 8 = true ∧ e 9 = true ∧ e 10 = true ∧ True from hdp)
     simp only [setE, h0, h1, h2, h3, h4, h5, h6, h7, h8, h9, h10, he, cj_t, cj_f, cjn_t, cjn_f, cb_t, cb_f]
     refine U (As (V rfl)) <| Nt <| We ?_ ?_
     ·exact ⟨V rfl, V rfl, V rfl, V rfl, V rfl, V rfl, V rfl, V rfl, V rfl, V rfl, V rfl, V rfl, V rfl, V rfl, V rfl, V rfl, Z⟩
     ·exact ⟨⟨_, rfl, ⟨rfl, rfl, (An rfl)⟩⟩, ⟨_, rfl, ⟨rfl, rfl, (An rfl)⟩⟩, ⟨_, rfl, ⟨rfl, rfl, (An rfl)⟩⟩, Z⟩
    ·intro e he
     have h0 := he 0 (by decide)
     have h1 := he 1 (by decide)
     have h2 := he 2 (by decide)
     have h3 := he 3 (by decide)
     have h4 := he 4 (by decide)
     have h5 := he 5 (by decide)
     have h6 := he 6 (by decide)
     have h7 := he 7 (by decide)
     have h8 := he 8 (by decide)
     have h9 := he 9 (by decide)
     have h10 := he 10 (by decide)
     have h11 := he 11 (by decide)
     show Weak _ ⟨[(47, cj (e 0) (SV.agg 1 (fun zi => (stG fam4) (0 + zi)))), (48, cj (e 1) (elB [iv (0), iv (1), iv (1), iv (1), iv (2), iv (1)] 0)), (49, cj (e 2) (SV.agg 2 (fun zi => (fun zt => ([iv (0), iv (1), iv (1), iv (1), iv (2), iv (1)] : List SV).getD zt .junk) (0 + zi)))), (50, cj (e 3) (elB [iv (0), iv (1), iv (1), iv (1), iv (2), iv (1)] 4)), (51, cj (e 4) (SV.agg 2 (fun zi => (fun zt => ([iv (0), iv (1), iv (1), iv (1), iv (2), iv (1)] : List SV).getD zt .junk) (4 + zi)))), (52, cj (e 5) (hdRow ([⟨1, 1⟩]))), (53, cj (e 6) (sv2 (SV.agg 1 (stG fam5)) (iv (0)))), (46, cj (e 7) (sv2 (SV.agg 1 (stG fam5)) (iv (0)))), (54, cj (e 8) (SV.agg 1 (stG fam5))), (55, cj (e 9) (iv (0))), (4, cj (e 11) (iv (0))), (0, SV.bp 1 0), (1, SV.bp 2 0), (3, SV.bp 3 0), (5, bv (true && (decide ((0 : Int) = 0)))), (6, elB [iv (0), iv (1), iv (1), iv (1), iv (2), iv (1)] 0)], (cb (e 10) [(1, Own.box 1 (cmpG [SV.v (Value.slice none 0 0)]) 24), (2, Own.box 6 (cmpG [iv (0), iv (0), iv (0), iv (0), iv (0), iv (0)]) 113), (3, Own.box 1 (stG fam5) 24)] [(1, Own.box 1 (cmpG [SV.v (Value.slice none 0 0)]) 24), (2, Own.box 6 (cmpG [iv (0), iv (0), iv (0), iv (0), iv (0), iv (0)]) 113), (3, Own.box 1 (stG fam4) 24)])⟩ _
     simp only [h0, h1, h2, h3, h4, h5, h6, h7, h8, h9, h10, h11]
     show Weak _ ⟨[(47, SV.agg 1 (fun zi => (stG fam4) (0 + zi))), (48, elB [iv (0), iv (1), iv (1), iv (1), iv (2), iv (1)] 0), (49, SV.agg 2 (fun zi => (fun zt => ([iv (0), iv (1), iv (1), iv (1), iv (2), iv (1)] : List SV).getD zt .junk) (0 + zi))), (50, elB [iv (0), iv (1), iv (1), iv (1), iv (2), iv (1)] 4), (51, SV.agg 2 (fun zi => (fun zt => ([iv (0), iv (1), iv (1), iv (1), iv (2), iv (1)] : List SV).getD zt .junk) (4 + zi))), (52, hdRow ([⟨1, 1⟩])), (53, sv2 (SV.agg 1 (stG fam5)) (iv (0))), (46, sv2 (SV.agg 1 (stG fam5)) (iv (0))), (54, SV.agg 1 (stG fam5)), (55, iv (0)), (4, iv (0)), (0, SV.bp 1 0), (1, SV.bp 2 0), (3, SV.bp 3 0), (5, bv (true && (decide ((0 : Int) = 0)))), (6, elB [iv (0), iv (1), iv (1), iv (1), iv (2), iv (1)] 0)], [(1, Own.box 1 (cmpG [SV.v (Value.slice none 0 0)]) 24), (2, Own.box 6 (cmpG [iv (0), iv (0), iv (0), iv (0), iv (0), iv (0)]) 113), (3, Own.box 1 (stG fam5) 24)]⟩ _
     refine We ?_ ?_
     ·exact ⟨Va (V rfl) (An rfl), V rfl, Va (V rfl) (An rfl), V rfl, Va (V rfl) (An rfl), V rfl, V rfl, V rfl, Va (V rfl) (An rfl), V rfl, V rfl, V rfl, V rfl, V rfl, V rfl, V rfl, Z⟩
     ·exact ⟨⟨_, rfl, ⟨rfl, rfl, (An rfl)⟩⟩, ⟨_, rfl, ⟨rfl, rfl, (An rfl)⟩⟩, ⟨_, rfl, ⟨rfl, rfl, (An rfl)⟩⟩, Z⟩
    refine Sq <| c_rd (fun e => ⟨[(56, cj (e 0) (SV.agg 1 (fun zi => (stG fam5) (0 + zi)))), (57, cj (e 1) (SV.agg 6 (fun zi => (fun zt => ([iv (0), iv (1), iv (1), iv (1), iv (2), iv (1)] : List SV).getD zt .junk) (0 + zi)))), (58, cj (e 2) (bv (true && (decide ((0 : Int) = 0))))), (59, cj (e 3) (bv (true && (decide ((0 : Int) = 0))))), (60, cj (e 4) (SV.grd ((true && (decide ((0 : Int) = 0)))) (iv (0)))), (61, cj (e 5) (SV.grd ((true && (decide ((0 : Int) = 0)))) (bv (decide ((0 : Int) = 0))))), (62, cj (e 6) (bv ((true && (decide ((0 : Int) = 0))) && (decide ((0 : Int) = 0))))), (63, cj (e 7) (bv ((true && (decide ((0 : Int) = 0))) && (decide ((0 : Int) = 0))))), (64, cj (e 8) (SV.grd (((true && (decide ((0 : Int) = 0))) && (decide ((0 : Int) = 0)))) (SV.bp 3 0))), (65, cj (e 9) (SV.grd (((true && (decide ((0 : Int) = 0))) && (decide ((0 : Int) = 0)))) (ndRow fam5))), (66, cj (e 10) (SV.grd (((true && (decide ((0 : Int) = 0))) && (decide ((0 : Int) = 0)))) (iv ((fam5.length : Int))))), (67, cj (e 11) (SV.grd (((true && (decide ((0 : Int) = 0))) && (decide ((0 : Int) = 0)))) (bv (decide ((fam5.length : Int) = 6))))), (68, cj (e 12) (bv (((true && (decide ((0 : Int) = 0))) && (decide ((0 : Int) = 0))) && (decide ((fam5.length : Int) = 6))))), (2, cj (e 15) (bv (((true && (decide ((0 : Int) = 0))) && (decide ((0 : Int) = 0))) && (decide ((fam5.length : Int) = 6))))), (0, SV.bp 1 0), (1, SV.bp 2 0), (3, SV.bp 3 0), (4, iv (0)), (5, bv (true && (decide ((0 : Int) = 0)))), (6, elB [iv (0), iv (1), iv (1), iv (1), iv (2), iv (1)] 0)], (cb (e 13) (cb (e 14) [(1, Own.box 1 (fun zi => (stG fam5) (0 + zi)) 24), (2, Own.box 6 (fun zi => (fun zt => ([iv (0), iv (1), iv (1), iv (1), iv (2), iv (1)] : List SV).getD zt .junk) (0 + zi)) 113), (3, Own.box 1 (stG fam5) 24)] [(1, Own.box 1 (fun zi => (stG fam5) (0 + zi)) 24), (2, Own.box 6 (cmpG [iv (0), iv (0), iv (0), iv (0), iv (0), iv (0)]) 113), (3, Own.box 1 (stG fam5) 24)]) (cb (e 14) [] [(1, Own.box 1 (cmpG [SV.v (Value.slice none 0 0)]) 24), (2, Own.box 6 (cmpG [iv (0), iv (0), iv (0), iv (0), iv (0), iv (0)]) 113), (3, Own.box 1 (stG fam5) 24)]))⟩) ⟨[(56, SV.agg 1 (fun zi => (stG fam5) (0 + zi))), (57, SV.agg 6 (fun zi => (fun zt => ([iv (0), iv (1), iv (1), iv (1), iv (2), iv (1)] : List SV).getD zt .junk) (0 + zi))), (58, bv (true && (decide ((0 : Int) = 0)))), (59, bv (true && (decide ((0 : Int) = 0)))), (60, SV.grd ((true && (decide ((0 : Int) = 0)))) (iv (0))), (61, SV.grd ((true && (decide ((0 : Int) = 0)))) (bv (decide ((0 : Int) = 0)))), (62, bv ((true && (decide ((0 : Int) = 0))) && (decide ((0 : Int) = 0)))), (63, bv ((true && (decide ((0 : Int) = 0))) && (decide ((0 : Int) = 0)))), (64, SV.grd (((true && (decide ((0 : Int) = 0))) && (decide ((0 : Int) = 0)))) (SV.bp 3 0)), (65, SV.grd (((true && (decide ((0 : Int) = 0))) && (decide ((0 : Int) = 0)))) (ndRow fam5)), (66, SV.grd (((true && (decide ((0 : Int) = 0))) && (decide ((0 : Int) = 0)))) (iv ((fam5.length : Int)))), (67, SV.grd (((true && (decide ((0 : Int) = 0))) && (decide ((0 : Int) = 0)))) (bv (decide ((fam5.length : Int) = 6)))), (68, bv (((true && (decide ((0 : Int) = 0))) && (decide ((0 : Int) = 0))) && (decide ((fam5.length : Int) = 6)))), (2, bv (((true && (decide ((0 : Int) = 0))) && (decide ((0 : Int) = 0))) && (decide ((fam5.length : Int) = 6)))), (0, SV.bp 1 0), (1, SV.bp 2 0), (3, SV.bp 3 0), (4, iv (0)), (5, bv (true && (decide ((0 : Int) = 0)))), (6, elB [iv (0), iv (1), iv (1), iv (1), iv (2), iv (1)] 0)], [(1, Own.box 1 (fun zi => (stG fam5) (0 + zi)) 24), (2, Own.box 6 (fun zi => (fun zt => ([iv (0), iv (1), iv (1), iv (1), iv (2), iv (1)] : List SV).getD zt .junk) (0 + zi)) 113), (3, Own.box 1 (stG fam5) 24)]⟩ (by kernel_rfl) (by kernel_rfl) ?_ ⟨?_, ?_, ?_, ?_, ?_, ?_, ?_, ?_, ?_, ?_, ?_, ?_, ?_, ?_, ?_, ?_, Z⟩ ?_ ?_
    ·show Weak _ _ ⟨[(56, SV.junk), (57, SV.junk), (58, SV.junk), (59, SV.junk), (60, SV.junk), (61, SV.junk), (62, SV.junk), (63, SV.junk), (64, SV.junk), (65, SV.junk), (66, SV.junk), (67, SV.junk), (68, SV.junk), (2, SV.junk), (0, SV.bp 1 0), (1, SV.bp 2 0), (3, SV.bp 3 0), (4, iv (0)), (5, bv (true && (decide ((0 : Int) = 0)))), (6, elB [iv (0), iv (1), iv (1), iv (1), iv (2), iv (1)] 0)], [(1, Own.box 1 (cmpG [SV.v (Value.slice none 0 0)]) 24), (2, Own.box 6 (cmpG [iv (0), iv (0), iv (0), iv (0), iv (0), iv (0)]) 113), (3, Own.box 1 (stG fam5) 24)]⟩
     refine We ?_ ?_
     ·exact ⟨Vj, Vj, Vj, Vj, Vj, Vj, Vj, Vj, Vj, Vj, Vj, Vj, Vj, Vj, V rfl, V rfl, V rfl, V rfl, V rfl, V rfl, Z⟩
     ·exact ⟨⟨_, rfl, ⟨rfl, rfl, (An rfl)⟩⟩, ⟨_, rfl, ⟨rfl, rfl, (An rfl)⟩⟩, ⟨_, rfl, ⟨rfl, rfl, (An rfl)⟩⟩, Z⟩
    ·intro e hdn he hdp
     have h13 : e 13 = false := fls he fun q => by obtain ⟨r0, -, -, -⟩ := (show e 0 = true ∧ e 7 = true ∧ e 0 = true ∧ True from hdn 13 q); exact r0
     have h14 : e 14 = false := fls he fun q => by obtain ⟨-, r13, -, -, -, -⟩ := (show e 1 = true ∧ e 13 = true ∧ e 0 = true ∧ e 1 = true ∧ e 13 = true ∧ True from hdn 14 q); obtain ⟨r0, -, -, -⟩ := (show e 0 = true ∧ e 7 = true ∧ e 0 = true ∧ True from hdn 13 r13); exact r0
     simp only [setE, he, h13, h14, cj_t, cj_f, cjn_t, cjn_f, cb_t, cb_f]
     refine U (LBA (V rfl) rfl Ga24 Sz24 (by decide)) <| Nt <| We ?_ ?_
     ·exact ⟨V rfl, V rfl, V rfl, V rfl, V rfl, V rfl, V rfl, V rfl, V rfl, V rfl, V rfl, V rfl, V rfl, V rfl, V rfl, V rfl, V rfl, V rfl, V rfl, V rfl, Z⟩
     ·exact ⟨⟨_, rfl, ⟨rfl, rfl, (An rfl)⟩⟩, ⟨_, rfl, ⟨rfl, rfl, (An rfl)⟩⟩, ⟨_, rfl, ⟨rfl, rfl, (An rfl)⟩⟩, Z⟩
    ·intro e hdn he hdp
     have h14 : e 14 = false := fls he fun q => by obtain ⟨r1, -, -, -, -, -⟩ := (show e 1 = true ∧ e 13 = true ∧ e 0 = true ∧ e 1 = true ∧ e 13 = true ∧ True from hdn 14 q); exact r1
     simp only [setE, he, h14, cj_t, cj_f, cjn_t, cjn_f, cb_t, cb_f]
     exact U (LdA (V rfl) Ga113 Sz113 (by show 0 + 6 ≤ 6; decide)) <| Nt <| weakS ⟨V rfl, V rfl, V rfl, V rfl, V rfl, V rfl, V rfl, V rfl, V rfl, V rfl, V rfl, V rfl, V rfl, V rfl, V rfl, V rfl, V rfl, V rfl, V rfl, V rfl, Z⟩
    ·intro e hdn he hdp
     have h13 : e 13 = false := fls he fun q => by obtain ⟨-, r7, -, -⟩ := (show e 0 = true ∧ e 7 = true ∧ e 0 = true ∧ True from hdn 13 q); obtain ⟨r6, -, -⟩ := (show e 6 = true ∧ e 3 = true ∧ True from hdn 7 r7); obtain ⟨-, r5, -⟩ := (show e 3 = true ∧ e 5 = true ∧ True from hdn 6 r6); obtain ⟨r4, -, -⟩ := (show e 4 = true ∧ e 3 = true ∧ True from hdn 5 r5); obtain ⟨r3, -⟩ := (show e 3 = true ∧ True from hdn 4 r4); obtain ⟨r2, -⟩ := (show e 2 = true ∧ True from hdn 3 r3); exact r2
     have h14 : e 14 = false := fls he fun q => by obtain ⟨-, r13, -, -, -, -⟩ := (show e 1 = true ∧ e 13 = true ∧ e 0 = true ∧ e 1 = true ∧ e 13 = true ∧ True from hdn 14 q); obtain ⟨-, r7, -, -⟩ := (show e 0 = true ∧ e 7 = true ∧ e 0 = true ∧ True from hdn 13 r13); obtain ⟨r6, -, -⟩ := (show e 6 = true ∧ e 3 = true ∧ True from hdn 7 r7); obtain ⟨-, r5, -⟩ := (show e 3 = true ∧ e 5 = true ∧ True from hdn 6 r6); obtain ⟨r4, -, -⟩ := (show e 4 = true ∧ e 3 = true ∧ True from hdn 5 r5); obtain ⟨r3, -⟩ := (show e 3 = true ∧ True from hdn 4 r4); obtain ⟨r2, -⟩ := (show e 2 = true ∧ True from hdn 3 r3); exact r2
     simp only [setE, he, h13, h14, cj_t, cj_f, cjn_t, cjn_f, cb_t, cb_f]
     refine U (Mv (V rfl)) <| Nt <| We ?_ ?_
     ·exact ⟨V rfl, V rfl, V rfl, V rfl, V rfl, V rfl, V rfl, V rfl, V rfl, V rfl, V rfl, V rfl, V rfl, V rfl, V rfl, V rfl, V rfl, V rfl, V rfl, V rfl, Z⟩
     ·exact ⟨⟨_, rfl, ⟨rfl, rfl, (An rfl)⟩⟩, ⟨_, rfl, ⟨rfl, rfl, (An rfl)⟩⟩, ⟨_, rfl, ⟨rfl, rfl, (An rfl)⟩⟩, Z⟩
    ·intro e hdn he hdp
     obtain ⟨h2, -⟩ := (show e 2 = true ∧ True from hdp)
     have h13 : e 13 = false := fls he fun q => by obtain ⟨-, r7, -, -⟩ := (show e 0 = true ∧ e 7 = true ∧ e 0 = true ∧ True from hdn 13 q); obtain ⟨r6, -, -⟩ := (show e 6 = true ∧ e 3 = true ∧ True from hdn 7 r7); obtain ⟨-, r5, -⟩ := (show e 3 = true ∧ e 5 = true ∧ True from hdn 6 r6); obtain ⟨r4, -, -⟩ := (show e 4 = true ∧ e 3 = true ∧ True from hdn 5 r5); obtain ⟨r3, -⟩ := (show e 3 = true ∧ True from hdn 4 r4); exact r3
     have h14 : e 14 = false := fls he fun q => by obtain ⟨-, r13, -, -, -, -⟩ := (show e 1 = true ∧ e 13 = true ∧ e 0 = true ∧ e 1 = true ∧ e 13 = true ∧ True from hdn 14 q); obtain ⟨-, r7, -, -⟩ := (show e 0 = true ∧ e 7 = true ∧ e 0 = true ∧ True from hdn 13 r13); obtain ⟨r6, -, -⟩ := (show e 6 = true ∧ e 3 = true ∧ True from hdn 7 r7); obtain ⟨-, r5, -⟩ := (show e 3 = true ∧ e 5 = true ∧ True from hdn 6 r6); obtain ⟨r4, -, -⟩ := (show e 4 = true ∧ e 3 = true ∧ True from hdn 5 r5); obtain ⟨r3, -⟩ := (show e 3 = true ∧ True from hdn 4 r4); exact r3
     simp only [setE, h2, he, h13, h14, cj_t, cj_f, cjn_t, cjn_f, cb_t, cb_f]
     refine U (Mv (V rfl)) <| Nt <| We ?_ ?_
     ·exact ⟨V rfl, V rfl, V rfl, V rfl, V rfl, V rfl, V rfl, V rfl, V rfl, V rfl, V rfl, V rfl, V rfl, V rfl, V rfl, V rfl, V rfl, V rfl, V rfl, V rfl, Z⟩
     ·exact ⟨⟨_, rfl, ⟨rfl, rfl, (An rfl)⟩⟩, ⟨_, rfl, ⟨rfl, rfl, (An rfl)⟩⟩, ⟨_, rfl, ⟨rfl, rfl, (An rfl)⟩⟩, Z⟩
    ·intro e hdn he hdp
     obtain ⟨h3, -⟩ := (show e 3 = true ∧ True from hdp)
     obtain ⟨h2, -⟩ := (show e 2 = true ∧ True from hdn 3 h3)
     have h13 : e 13 = false := fls he fun q => by obtain ⟨-, r7, -, -⟩ := (show e 0 = true ∧ e 7 = true ∧ e 0 = true ∧ True from hdn 13 q); obtain ⟨r6, -, -⟩ := (show e 6 = true ∧ e 3 = true ∧ True from hdn 7 r7); obtain ⟨-, r5, -⟩ := (show e 3 = true ∧ e 5 = true ∧ True from hdn 6 r6); obtain ⟨r4, -, -⟩ := (show e 4 = true ∧ e 3 = true ∧ True from hdn 5 r5); exact r4
     have h14 : e 14 = false := fls he fun q => by obtain ⟨-, r13, -, -, -, -⟩ := (show e 1 = true ∧ e 13 = true ∧ e 0 = true ∧ e 1 = true ∧ e 13 = true ∧ True from hdn 14 q); obtain ⟨-, r7, -, -⟩ := (show e 0 = true ∧ e 7 = true ∧ e 0 = true ∧ True from hdn 13 r13); obtain ⟨r6, -, -⟩ := (show e 6 = true ∧ e 3 = true ∧ True from hdn 7 r7); obtain ⟨-, r5, -⟩ := (show e 3 = true ∧ e 5 = true ∧ True from hdn 6 r6); obtain ⟨r4, -, -⟩ := (show e 4 = true ∧ e 3 = true ∧ True from hdn 5 r5); exact r4
     simp only [setE, h2, h3, he, h13, h14, cj_t, cj_f, cjn_t, cjn_f, cb_t, cb_f]
     refine Ug (Gy rfl rfl) (fun hg => Mv (V rfl)) <| Nt <| We ?_ ?_
     ·exact ⟨V rfl, V rfl, V rfl, V rfl, V rfl, V rfl, V rfl, V rfl, V rfl, V rfl, V rfl, V rfl, V rfl, V rfl, V rfl, V rfl, V rfl, V rfl, V rfl, V rfl, Z⟩
     ·exact ⟨⟨_, rfl, ⟨rfl, rfl, (An rfl)⟩⟩, ⟨_, rfl, ⟨rfl, rfl, (An rfl)⟩⟩, ⟨_, rfl, ⟨rfl, rfl, (An rfl)⟩⟩, Z⟩
    ·intro e hdn he hdp
     obtain ⟨h4, h3, -⟩ := (show e 4 = true ∧ e 3 = true ∧ True from hdp)
     obtain ⟨h2, -⟩ := (show e 2 = true ∧ True from hdn 3 h3)
     have h13 : e 13 = false := fls he fun q => by obtain ⟨-, r7, -, -⟩ := (show e 0 = true ∧ e 7 = true ∧ e 0 = true ∧ True from hdn 13 q); obtain ⟨r6, -, -⟩ := (show e 6 = true ∧ e 3 = true ∧ True from hdn 7 r7); obtain ⟨-, r5, -⟩ := (show e 3 = true ∧ e 5 = true ∧ True from hdn 6 r6); exact r5
     have h14 : e 14 = false := fls he fun q => by obtain ⟨-, r13, -, -, -, -⟩ := (show e 1 = true ∧ e 13 = true ∧ e 0 = true ∧ e 1 = true ∧ e 13 = true ∧ True from hdn 14 q); obtain ⟨-, r7, -, -⟩ := (show e 0 = true ∧ e 7 = true ∧ e 0 = true ∧ True from hdn 13 r13); obtain ⟨r6, -, -⟩ := (show e 6 = true ∧ e 3 = true ∧ True from hdn 7 r7); obtain ⟨-, r5, -⟩ := (show e 3 = true ∧ e 5 = true ∧ True from hdn 6 r6); exact r5
     simp only [setE, h2, h3, h4, he, h13, h14, cj_t, cj_f, cjn_t, cjn_f, cb_t, cb_f]
     refine Ug (Gy rfl rfl) (fun hg => Ql (Vg (V rfl) hg) K) <| Nt <| We ?_ ?_
     ·exact ⟨V rfl, V rfl, V rfl, V rfl, V rfl, V rfl, V rfl, V rfl, V rfl, V rfl, V rfl, V rfl, V rfl, V rfl, V rfl, V rfl, V rfl, V rfl, V rfl, V rfl, Z⟩
     ·exact ⟨⟨_, rfl, ⟨rfl, rfl, (An rfl)⟩⟩, ⟨_, rfl, ⟨rfl, rfl, (An rfl)⟩⟩, ⟨_, rfl, ⟨rfl, rfl, (An rfl)⟩⟩, Z⟩
    ·intro e hdn he hdp
     obtain ⟨h3, h5, -⟩ := (show e 3 = true ∧ e 5 = true ∧ True from hdp)
     obtain ⟨h4, -, -⟩ := (show e 4 = true ∧ e 3 = true ∧ True from hdn 5 h5)
     obtain ⟨h2, -⟩ := (show e 2 = true ∧ True from hdn 3 h3)
     have h13 : e 13 = false := fls he fun q => by obtain ⟨-, r7, -, -⟩ := (show e 0 = true ∧ e 7 = true ∧ e 0 = true ∧ True from hdn 13 q); obtain ⟨r6, -, -⟩ := (show e 6 = true ∧ e 3 = true ∧ True from hdn 7 r7); exact r6
     have h14 : e 14 = false := fls he fun q => by obtain ⟨-, r13, -, -, -, -⟩ := (show e 1 = true ∧ e 13 = true ∧ e 0 = true ∧ e 1 = true ∧ e 13 = true ∧ True from hdn 14 q); obtain ⟨-, r7, -, -⟩ := (show e 0 = true ∧ e 7 = true ∧ e 0 = true ∧ True from hdn 13 r13); obtain ⟨r6, -, -⟩ := (show e 6 = true ∧ e 3 = true ∧ True from hdn 7 r7); exact r6
     simp only [setE, h2, h3, h4, h5, he, h13, h14, cj_t, cj_f, cjn_t, cjn_f, cb_t, cb_f]
     refine U (Qa (V rfl) (fun h => Vg (V rfl) h)) <| Nt <| We ?_ ?_
     ·exact ⟨V rfl, V rfl, V rfl, V rfl, V rfl, V rfl, V rfl, V rfl, V rfl, V rfl, V rfl, V rfl, V rfl, V rfl, V rfl, V rfl, V rfl, V rfl, V rfl, V rfl, Z⟩
     ·exact ⟨⟨_, rfl, ⟨rfl, rfl, (An rfl)⟩⟩, ⟨_, rfl, ⟨rfl, rfl, (An rfl)⟩⟩, ⟨_, rfl, ⟨rfl, rfl, (An rfl)⟩⟩, Z⟩
    ·intro e hdn he hdp
     obtain ⟨h6, h3, -⟩ := (show e 6 = true ∧ e 3 = true ∧ True from hdp)
     obtain ⟨-, h5, -⟩ := (show e 3 = true ∧ e 5 = true ∧ True from hdn 6 h6)
     obtain ⟨h4, -, -⟩ := (show e 4 = true ∧ e 3 = true ∧ True from hdn 5 h5)
     obtain ⟨h2, -⟩ := (show e 2 = true ∧ True from hdn 3 h3)
     have h13 : e 13 = false := fls he fun q => by obtain ⟨-, r7, -, -⟩ := (show e 0 = true ∧ e 7 = true ∧ e 0 = true ∧ True from hdn 13 q); exact r7
     have h14 : e 14 = false := fls he fun q => by obtain ⟨-, r13, -, -, -, -⟩ := (show e 1 = true ∧ e 13 = true ∧ e 0 = true ∧ e 1 = true ∧ e 13 = true ∧ True from hdn 14 q); obtain ⟨-, r7, -, -⟩ := (show e 0 = true ∧ e 7 = true ∧ e 0 = true ∧ True from hdn 13 r13); exact r7
     simp only [setE, h2, h3, h4, h5, h6, he, h13, h14, cj_t, cj_f, cjn_t, cjn_f, cb_t, cb_f]
     refine U (Mv (V rfl)) <| Nt <| We ?_ ?_
     ·exact ⟨V rfl, V rfl, V rfl, V rfl, V rfl, V rfl, V rfl, V rfl, V rfl, V rfl, V rfl, V rfl, V rfl, V rfl, V rfl, V rfl, V rfl, V rfl, V rfl, V rfl, Z⟩
     ·exact ⟨⟨_, rfl, ⟨rfl, rfl, (An rfl)⟩⟩, ⟨_, rfl, ⟨rfl, rfl, (An rfl)⟩⟩, ⟨_, rfl, ⟨rfl, rfl, (An rfl)⟩⟩, Z⟩
    ·intro e hdn he hdp
     obtain ⟨h7, -⟩ := (show e 7 = true ∧ True from hdp)
     obtain ⟨h6, h3, -⟩ := (show e 6 = true ∧ e 3 = true ∧ True from hdn 7 h7)
     obtain ⟨-, h5, -⟩ := (show e 3 = true ∧ e 5 = true ∧ True from hdn 6 h6)
     obtain ⟨h4, -, -⟩ := (show e 4 = true ∧ e 3 = true ∧ True from hdn 5 h5)
     obtain ⟨h2, -⟩ := (show e 2 = true ∧ True from hdn 3 h3)
     simp only [setE, h2, h3, h4, h5, h6, h7, he, cj_t, cj_f, cjn_t, cjn_f, cb_t, cb_f]
     exact Ug (Gy rfl rfl) (fun hg => FlB _ _ (V rfl) Un24 rfl 0 Sz22) <| Nt <| weakS ⟨V rfl, V rfl, V rfl, V rfl, V rfl, V rfl, V rfl, V rfl, V rfl, V rfl, V rfl, V rfl, V rfl, V rfl, V rfl, V rfl, V rfl, V rfl, V rfl, V rfl, Z⟩
    ·intro e hdn he hdp
     obtain ⟨h8, h7, -⟩ := (show e 8 = true ∧ e 7 = true ∧ True from hdp)
     obtain ⟨h6, h3, -⟩ := (show e 6 = true ∧ e 3 = true ∧ True from hdn 7 h7)
     obtain ⟨-, h5, -⟩ := (show e 3 = true ∧ e 5 = true ∧ True from hdn 6 h6)
     obtain ⟨h4, -, -⟩ := (show e 4 = true ∧ e 3 = true ∧ True from hdn 5 h5)
     obtain ⟨h2, -⟩ := (show e 2 = true ∧ True from hdn 3 h3)
     cases hu13 : e 13
     ·have h14 : e 14 = false := fls hu13 fun q => by obtain ⟨-, r13, -, -, -, -⟩ := (show e 1 = true ∧ e 13 = true ∧ e 0 = true ∧ e 1 = true ∧ e 13 = true ∧ True from hdn 14 q); exact r13
      simp only [setE, h2, h3, h4, h5, h6, h7, h8, he, hu13, h14, cj_t, cj_f, cjn_t, cjn_f, cb_t, cb_f]
      refine Ug (Gy rfl rfl) (fun hg => LdB (Vg (V rfl) hg) rfl Ga22 (by decide)) <| Nt <| We ?_ ?_
      ·exact ⟨V rfl, V rfl, V rfl, V rfl, V rfl, V rfl, V rfl, V rfl, V rfl, V rfl, V rfl, V rfl, V rfl, V rfl, V rfl, V rfl, V rfl, V rfl, V rfl, V rfl, Z⟩
      ·exact ⟨⟨_, rfl, ⟨rfl, rfl, (An rfl)⟩⟩, ⟨_, rfl, ⟨rfl, rfl, (An rfl)⟩⟩, ⟨_, rfl, ⟨rfl, rfl, (An rfl)⟩⟩, Z⟩
     ·cases hu14 : e 14
      ·simp only [setE, h2, h3, h4, h5, h6, h7, h8, he, hu13, hu14, cj_t, cj_f, cjn_t, cjn_f, cb_t, cb_f]
       refine Ug (Gy rfl rfl) (fun hg => LdB (Vg (V rfl) hg) rfl Ga22 (by decide)) <| Nt <| We ?_ ?_
       ·exact ⟨V rfl, V rfl, V rfl, V rfl, V rfl, V rfl, V rfl, V rfl, V rfl, V rfl, V rfl, V rfl, V rfl, V rfl, V rfl, V rfl, V rfl, V rfl, V rfl, V rfl, Z⟩
       ·exact ⟨⟨_, rfl, ⟨rfl, rfl, (An rfl)⟩⟩, ⟨_, rfl, ⟨rfl, rfl, (An rfl)⟩⟩, ⟨_, rfl, ⟨rfl, rfl, (An rfl)⟩⟩, Z⟩
      ·simp only [setE, h2, h3, h4, h5, h6, h7, h8, he, hu13, hu14, cj_t, cj_f, cjn_t, cjn_f, cb_t, cb_f]
       refine Ug (Gy rfl rfl) (fun hg => LdB (Vg (V rfl) hg) rfl Ga22 (by decide)) <| Nt <| We ?_ ?_
       ·exact ⟨V rfl, V rfl, V rfl, V rfl, V rfl, V rfl, V rfl, V rfl, V rfl, V rfl, V rfl, V rfl, V rfl, V rfl, V rfl, V rfl, V rfl, V rfl, V rfl, V rfl, Z⟩
       ·exact ⟨⟨_, rfl, ⟨rfl, rfl, (An rfl)⟩⟩, ⟨_, rfl, ⟨rfl, rfl, (An rfl)⟩⟩, ⟨_, rfl, ⟨rfl, rfl, (An rfl)⟩⟩, Z⟩
    ·intro e hdn he hdp
     obtain ⟨h9, h7, -⟩ := (show e 9 = true ∧ e 7 = true ∧ True from hdp)
     obtain ⟨h8, -, -⟩ := (show e 8 = true ∧ e 7 = true ∧ True from hdn 9 h9)
     obtain ⟨h6, h3, -⟩ := (show e 6 = true ∧ e 3 = true ∧ True from hdn 7 h7)
     obtain ⟨-, h5, -⟩ := (show e 3 = true ∧ e 5 = true ∧ True from hdn 6 h6)
     obtain ⟨h4, -, -⟩ := (show e 4 = true ∧ e 3 = true ∧ True from hdn 5 h5)
     obtain ⟨h2, -⟩ := (show e 2 = true ∧ True from hdn 3 h3)
     simp only [setE, h2, h3, h4, h5, h6, h7, h8, h9, he, cj_t, cj_f, cjn_t, cjn_f, cb_t, cb_f]
     exact Ug (Gy rfl rfl) (fun hg => Ln (Vg (V rfl) hg) ts22) <| Nt <| weakS ⟨V rfl, V rfl, V rfl, V rfl, V rfl, V rfl, V rfl, V rfl, V rfl, V rfl, V rfl, V rfl, V rfl, V rfl, V rfl, V rfl, V rfl, V rfl, V rfl, V rfl, Z⟩
    ·intro e hdn he hdp
     obtain ⟨h10, h7, -⟩ := (show e 10 = true ∧ e 7 = true ∧ True from hdp)
     obtain ⟨h9, -, -⟩ := (show e 9 = true ∧ e 7 = true ∧ True from hdn 10 h10)
     obtain ⟨h8, -, -⟩ := (show e 8 = true ∧ e 7 = true ∧ True from hdn 9 h9)
     obtain ⟨h6, h3, -⟩ := (show e 6 = true ∧ e 3 = true ∧ True from hdn 7 h7)
     obtain ⟨-, h5, -⟩ := (show e 3 = true ∧ e 5 = true ∧ True from hdn 6 h6)
     obtain ⟨h4, -, -⟩ := (show e 4 = true ∧ e 3 = true ∧ True from hdn 5 h5)
     obtain ⟨h2, -⟩ := (show e 2 = true ∧ True from hdn 3 h3)
     simp only [setE, h2, h3, h4, h5, h6, h7, h8, h9, h10, he, cj_t, cj_f, cjn_t, cjn_f, cb_t, cb_f]
     exact Ug (Gy rfl rfl) (fun hg => Ql (Vg (V rfl) hg) K) <| Nt <| weakS ⟨V rfl, V rfl, V rfl, V rfl, V rfl, V rfl, V rfl, V rfl, V rfl, V rfl, V rfl, V rfl, V rfl, V rfl, V rfl, V rfl, V rfl, V rfl, V rfl, V rfl, Z⟩
    ·intro e hdn he hdp
     obtain ⟨h7, h11, -⟩ := (show e 7 = true ∧ e 11 = true ∧ True from hdp)
     obtain ⟨h10, -, -⟩ := (show e 10 = true ∧ e 7 = true ∧ True from hdn 11 h11)
     obtain ⟨h9, -, -⟩ := (show e 9 = true ∧ e 7 = true ∧ True from hdn 10 h10)
     obtain ⟨h8, -, -⟩ := (show e 8 = true ∧ e 7 = true ∧ True from hdn 9 h9)
     obtain ⟨h6, h3, -⟩ := (show e 6 = true ∧ e 3 = true ∧ True from hdn 7 h7)
     obtain ⟨-, h5, -⟩ := (show e 3 = true ∧ e 5 = true ∧ True from hdn 6 h6)
     obtain ⟨h4, -, -⟩ := (show e 4 = true ∧ e 3 = true ∧ True from hdn 5 h5)
     obtain ⟨h2, -⟩ := (show e 2 = true ∧ True from hdn 3 h3)
     simp only [setE, h2, h3, h4, h5, h6, h7, h8, h9, h10, h11, he, cj_t, cj_f, cjn_t, cjn_f, cb_t, cb_f]
     exact U (Qa (V rfl) (fun h => Vg (V rfl) h)) <| Nt <| weakS ⟨V rfl, V rfl, V rfl, V rfl, V rfl, V rfl, V rfl, V rfl, V rfl, V rfl, V rfl, V rfl, V rfl, V rfl, V rfl, V rfl, V rfl, V rfl, V rfl, V rfl, Z⟩
    ·intro e hdn he hdp
     obtain ⟨h0, h7, -, -⟩ := (show e 0 = true ∧ e 7 = true ∧ e 0 = true ∧ True from hdp)
     obtain ⟨h6, h3, -⟩ := (show e 6 = true ∧ e 3 = true ∧ True from hdn 7 h7)
     obtain ⟨-, h5, -⟩ := (show e 3 = true ∧ e 5 = true ∧ True from hdn 6 h6)
     obtain ⟨h4, -, -⟩ := (show e 4 = true ∧ e 3 = true ∧ True from hdn 5 h5)
     obtain ⟨h2, -⟩ := (show e 2 = true ∧ True from hdn 3 h3)
     have h14 : e 14 = false := fls he fun q => by obtain ⟨-, r13, -, -, -, -⟩ := (show e 1 = true ∧ e 13 = true ∧ e 0 = true ∧ e 1 = true ∧ e 13 = true ∧ True from hdn 14 q); exact r13
     simp only [setE, h0, h2, h3, h4, h5, h6, h7, he, h14, cj_t, cj_f, cjn_t, cjn_f, cb_t, cb_f]
     refine StA (V rfl) rfl (V rfl) Sz24 <| Nt <| We ?_ ?_
     ·exact ⟨V rfl, V rfl, V rfl, V rfl, V rfl, V rfl, V rfl, V rfl, V rfl, V rfl, V rfl, V rfl, V rfl, V rfl, V rfl, V rfl, V rfl, V rfl, V rfl, V rfl, Z⟩
     ·exact ⟨⟨_, rfl, ⟨rfl, rfl, (An rfl)⟩⟩, ⟨_, rfl, ⟨rfl, rfl, (An rfl)⟩⟩, ⟨_, rfl, ⟨rfl, rfl, (An rfl)⟩⟩, Z⟩
    ·intro e hdn he hdp
     obtain ⟨h1, h13, h0, -, -, -⟩ := (show e 1 = true ∧ e 13 = true ∧ e 0 = true ∧ e 1 = true ∧ e 13 = true ∧ True from hdp)
     obtain ⟨-, h7, -, -⟩ := (show e 0 = true ∧ e 7 = true ∧ e 0 = true ∧ True from hdn 13 h13)
     obtain ⟨h6, h3, -⟩ := (show e 6 = true ∧ e 3 = true ∧ True from hdn 7 h7)
     obtain ⟨-, h5, -⟩ := (show e 3 = true ∧ e 5 = true ∧ True from hdn 6 h6)
     obtain ⟨h4, -, -⟩ := (show e 4 = true ∧ e 3 = true ∧ True from hdn 5 h5)
     obtain ⟨h2, -⟩ := (show e 2 = true ∧ True from hdn 3 h3)
     simp only [setE, h0, h1, h2, h3, h4, h5, h6, h7, h13, he, cj_t, cj_f, cjn_t, cjn_f, cb_t, cb_f]
     refine StA (V rfl) rfl (V rfl) Sz113 <| Nt <| We ?_ ?_
     ·exact ⟨V rfl, V rfl, V rfl, V rfl, V rfl, V rfl, V rfl, V rfl, V rfl, V rfl, V rfl, V rfl, V rfl, V rfl, V rfl, V rfl, V rfl, V rfl, V rfl, V rfl, Z⟩
     ·exact ⟨⟨_, rfl, ⟨rfl, rfl, (An rfl)⟩⟩, ⟨_, rfl, ⟨rfl, rfl, (An rfl)⟩⟩, ⟨_, rfl, ⟨rfl, rfl, (An rfl)⟩⟩, Z⟩
    ·intro e hdn he hdp
     obtain ⟨h12, h14, h0, h1, h2, h3, h4, h5, h6, h7, h8, h9, h10, h11, -, h13, -, -⟩ := (show e 12 = true ∧ e 14 = true ∧ e 0 = true ∧ e 1 = true ∧ e 2 = true ∧ e 3 = true ∧ e 4 = true ∧ e 5 = true ∧ e 6 = true ∧ e 7 = true ∧ e 8 = true ∧ e 9 = true ∧ e 10 = true ∧ e 11 = true ∧ e 12 = true ∧ e 13 = true ∧ e 14 = true ∧ True from hdp)
     simp only [setE, h0, h1, h2, h3, h4, h5, h6, h7, h8, h9, h10, h11, h12, h13, h14, he, cj_t, cj_f, cjn_t, cjn_f, cb_t, cb_f]
     refine U (As (V rfl)) <| Nt <| We ?_ ?_
     ·exact ⟨V rfl, V rfl, V rfl, V rfl, V rfl, V rfl, V rfl, V rfl, V rfl, V rfl, V rfl, V rfl, V rfl, V rfl, V rfl, V rfl, V rfl, V rfl, V rfl, V rfl, Z⟩
     ·exact ⟨⟨_, rfl, ⟨rfl, rfl, (An rfl)⟩⟩, ⟨_, rfl, ⟨rfl, rfl, (An rfl)⟩⟩, ⟨_, rfl, ⟨rfl, rfl, (An rfl)⟩⟩, Z⟩
    ·intro e he
     have h0 := he 0 (by decide)
     have h1 := he 1 (by decide)
     have h2 := he 2 (by decide)
     have h3 := he 3 (by decide)
     have h4 := he 4 (by decide)
     have h5 := he 5 (by decide)
     have h6 := he 6 (by decide)
     have h7 := he 7 (by decide)
     have h8 := he 8 (by decide)
     have h9 := he 9 (by decide)
     have h10 := he 10 (by decide)
     have h11 := he 11 (by decide)
     have h12 := he 12 (by decide)
     have h13 := he 13 (by decide)
     have h14 := he 14 (by decide)
     have h15 := he 15 (by decide)
     show Weak _ ⟨[(56, cj (e 0) (SV.agg 1 (fun zi => (stG fam5) (0 + zi)))), (57, cj (e 1) (SV.agg 6 (fun zi => (fun zt => ([iv (0), iv (1), iv (1), iv (1), iv (2), iv (1)] : List SV).getD zt .junk) (0 + zi)))), (58, cj (e 2) (bv (true && (decide ((0 : Int) = 0))))), (59, cj (e 3) (bv (true && (decide ((0 : Int) = 0))))), (60, cj (e 4) (SV.grd ((true && (decide ((0 : Int) = 0)))) (iv (0)))), (61, cj (e 5) (SV.grd ((true && (decide ((0 : Int) = 0)))) (bv (decide ((0 : Int) = 0))))), (62, cj (e 6) (bv ((true && (decide ((0 : Int) = 0))) && (decide ((0 : Int) = 0))))), (63, cj (e 7) (bv ((true && (decide ((0 : Int) = 0))) && (decide ((0 : Int) = 0))))), (64, cj (e 8) (SV.grd (((true && (decide ((0 : Int) = 0))) && (decide ((0 : Int) = 0)))) (SV.bp 3 0))), (65, cj (e 9) (SV.grd (((true && (decide ((0 : Int) = 0))) && (decide ((0 : Int) = 0)))) (ndRow fam5))), (66, cj (e 10) (SV.grd (((true && (decide ((0 : Int) = 0))) && (decide ((0 : Int) = 0)))) (iv ((fam5.length : Int))))), (67, cj (e 11) (SV.grd (((true && (decide ((0 : Int) = 0))) && (decide ((0 : Int) = 0)))) (bv (decide ((fam5.length : Int) = 6))))), (68, cj (e 12) (bv (((true && (decide ((0 : Int) = 0))) && (decide ((0 : Int) = 0))) && (decide ((fam5.length : Int) = 6))))), (2, cj (e 15) (bv (((true && (decide ((0 : Int) = 0))) && (decide ((0 : Int) = 0))) && (decide ((fam5.length : Int) = 6))))), (0, SV.bp 1 0), (1, SV.bp 2 0), (3, SV.bp 3 0), (4, iv (0)), (5, bv (true && (decide ((0 : Int) = 0)))), (6, elB [iv (0), iv (1), iv (1), iv (1), iv (2), iv (1)] 0)], (cb (e 13) (cb (e 14) [(1, Own.box 1 (fun zi => (stG fam5) (0 + zi)) 24), (2, Own.box 6 (fun zi => (fun zt => ([iv (0), iv (1), iv (1), iv (1), iv (2), iv (1)] : List SV).getD zt .junk) (0 + zi)) 113), (3, Own.box 1 (stG fam5) 24)] [(1, Own.box 1 (fun zi => (stG fam5) (0 + zi)) 24), (2, Own.box 6 (cmpG [iv (0), iv (0), iv (0), iv (0), iv (0), iv (0)]) 113), (3, Own.box 1 (stG fam5) 24)]) (cb (e 14) [] [(1, Own.box 1 (cmpG [SV.v (Value.slice none 0 0)]) 24), (2, Own.box 6 (cmpG [iv (0), iv (0), iv (0), iv (0), iv (0), iv (0)]) 113), (3, Own.box 1 (stG fam5) 24)]))⟩ _
     simp only [h0, h1, h2, h3, h4, h5, h6, h7, h8, h9, h10, h11, h12, h13, h14, h15]
     show Weak _ ⟨[(56, SV.agg 1 (fun zi => (stG fam5) (0 + zi))), (57, SV.agg 6 (fun zi => (fun zt => ([iv (0), iv (1), iv (1), iv (1), iv (2), iv (1)] : List SV).getD zt .junk) (0 + zi))), (58, bv (true && (decide ((0 : Int) = 0)))), (59, bv (true && (decide ((0 : Int) = 0)))), (60, SV.grd ((true && (decide ((0 : Int) = 0)))) (iv (0))), (61, SV.grd ((true && (decide ((0 : Int) = 0)))) (bv (decide ((0 : Int) = 0)))), (62, bv ((true && (decide ((0 : Int) = 0))) && (decide ((0 : Int) = 0)))), (63, bv ((true && (decide ((0 : Int) = 0))) && (decide ((0 : Int) = 0)))), (64, SV.grd (((true && (decide ((0 : Int) = 0))) && (decide ((0 : Int) = 0)))) (SV.bp 3 0)), (65, SV.grd (((true && (decide ((0 : Int) = 0))) && (decide ((0 : Int) = 0)))) (ndRow fam5)), (66, SV.grd (((true && (decide ((0 : Int) = 0))) && (decide ((0 : Int) = 0)))) (iv ((fam5.length : Int)))), (67, SV.grd (((true && (decide ((0 : Int) = 0))) && (decide ((0 : Int) = 0)))) (bv (decide ((fam5.length : Int) = 6)))), (68, bv (((true && (decide ((0 : Int) = 0))) && (decide ((0 : Int) = 0))) && (decide ((fam5.length : Int) = 6)))), (2, bv (((true && (decide ((0 : Int) = 0))) && (decide ((0 : Int) = 0))) && (decide ((fam5.length : Int) = 6)))), (0, SV.bp 1 0), (1, SV.bp 2 0), (3, SV.bp 3 0), (4, iv (0)), (5, bv (true && (decide ((0 : Int) = 0)))), (6, elB [iv (0), iv (1), iv (1), iv (1), iv (2), iv (1)] 0)], [(1, Own.box 1 (fun zi => (stG fam5) (0 + zi)) 24), (2, Own.box 6 (fun zi => (fun zt => ([iv (0), iv (1), iv (1), iv (1), iv (2), iv (1)] : List SV).getD zt .junk) (0 + zi)) 113), (3, Own.box 1 (stG fam5) 24)]⟩ _
     refine We ?_ ?_
     ·exact ⟨Va (V rfl) (An rfl), Va (V rfl) (An rfl), V rfl, V rfl, V rfl, V rfl, V rfl, V rfl, V rfl, V rfl, V rfl, V rfl, V rfl, V rfl, V rfl, V rfl, V rfl, V rfl, V rfl, V rfl, Z⟩
     ·exact ⟨⟨_, rfl, ⟨rfl, rfl, (An rfl)⟩⟩, ⟨_, rfl, ⟨rfl, rfl, (An rfl)⟩⟩, ⟨_, rfl, ⟨rfl, rfl, (An rfl)⟩⟩, Z⟩
    exact Rx <| RR3 rfl (rv_aggI (g' := stG fam5) (rv_cell (V rfl) rfl Ga24 Sz24) ⟨Z, Ir⟩) (rv_aggI (g' := cmpG [iv (0), iv (1), iv (1), iv (1), iv (2), iv (1)]) (rv_cell (V rfl) rfl Ga113 Sz113) ⟨⟨⟨⟨⟨⟨Z, Ir⟩, Ir⟩, Ir⟩, Ir⟩, Ir⟩, Ir⟩) (rv_tmp (V rfl)) rfl rfl rfl (by show sv3 (SV.agg 1 (stG fam5)) (SV.agg 6 (cmpG [iv (0), iv (1), iv (1), iv (1), iv (2), iv (1)])) (bv (((true && (decide ((0 : Int) = 0))) && (decide ((0 : Int) = 0))) && (decide ((fam5.length : Int) = 6)))) = sv3 (SV.agg 1 (stG fam5)) (SV.agg 6 (cmpG [iv (0), iv (1), iv (1), iv (1), iv (2), iv (1)])) (bv (true)); rfl)
end Go.Proofs.Ytmcdamcedemdiaa
namespace Go.Proofs.Ytmcdamcedemdiaa
open Go.RowKit Go.Eng
theorem grown_ct  : Ct Try.prog 57 [] (bv true) := by
 refine CtO 43 Try.func57 rfl rfl rfl fun E => Sq <| Rq <| O (As K) <| Nq <| Sq <| Rt <| CT en103 (by exact Z) (family_ct) <| U (Mv (V rfl)) <| U (Xt (V rfl) (by decide)) <| U (Xt (V rfl) (by decide)) <| U (Xt (V rfl) (by decide)) <| Al 1 zero24 rfl rfl <| Al 2 zero113 rfl rfl <| StA (V rfl) rfl (V rfl) Sz24 <| StA (V rfl) rfl (V rfl) Sz113 <| U (As (V rfl)) <| Nt <| Sq <| Rt <| U (LBA (V rfl) rfl Ga24 Sz24 (by decide)) <| U (q_ixB (i := 0) (V rfl) K ta113 te113 (by rw [al113]; decide)) <| U (LBA (V rfl) rfl Ga26 Sz26 (by decide)) <| CM (cargs := [SV.agg 1 (stG fam5), SV.agg 2 (hdCell ⟨0, 1⟩)]) [] [(0, 3)] en58 (mv0 (by exact ⟨⟨(Vi (g' := stG fam5) (V rfl) ⟨Z, Ir⟩), rfl⟩, ⟨(Vi (g' := hdCell ⟨0, 1⟩) (V rfl) ⟨⟨Z, Ir⟩, Ir⟩), rfl⟩, Z⟩)) (order_ct fam5 ⟨0, 1⟩ (by first | assumption | exact kb_nil | exact kb_of (by assumption) | exact kb_of fam_c5)) (by exact Z) rfl rfl rfl rfl <| U (Mv (V rfl)) <| U (Xt (V rfl) (by decide)) <| U (Xt (V rfl) (by decide)) <| U (As (V rfl)) <| U (As (V rfl)) <| Nt <| Sq <| Rt <| U (LBA (V rfl) rfl Ga24 Sz24 (by decide)) <| U (q_ixB (i := 1) (V rfl) K ta113 te113 (by rw [al113]; decide)) <| U (LBA (V rfl) rfl Ga26 Sz26 (by decide)) <| U (q_ixB (i := 0) (V rfl) K ta113 te113 (by rw [al113]; decide)) <| U (LBA (V rfl) rfl Ga26 Sz26 (by decide)) <| CT en56 (by exact ⟨⟨(Vi (g' := stG fam5) (V rfl) ⟨Z, Ir⟩), rfl⟩, ⟨(Vi (g' := hdCell ⟨1, 1⟩) (V rfl) ⟨⟨Z, Ir⟩, Ir⟩), rfl⟩, ⟨(Vi (g' := hdCell ⟨0, 1⟩) (V rfl) ⟨⟨Z, Ir⟩, Ir⟩), rfl⟩, ⟨Vn, rfl⟩, Z⟩) (insert_ct fam5 ⟨1, 1⟩ ⟨0, 1⟩ ([]) (by first | assumption | exact kb_nil | exact kb_of (by assumption) | exact kb_of fam_c5)) <| U (Mv (V rfl)) <| U (Xt (V rfl) (by decide)) <| ?_
 exact U (Xt (V rfl) (by decide)) <| Al 4 zero24 rfl rfl <| StA (V rfl) rfl (V rfl) Sz24 <| U (As (V rfl)) <| Nt <| Sq <| Rt <| U (Mv (V rfl)) <| U (Mv (V rfl)) <| Ug (Gy rfl rfl) (fun hg => Mv (V rfl)) <| Ug (Gy rfl rfl) (fun hg => Ql (Vg (V rfl) hg) K) <| U (Qa (V rfl) (fun h => Vg (V rfl) h)) <| U (Mv (V rfl)) <| Ug (Gy rfl rfl) (fun hg => Mv (V rfl)) <| Ug (Gy rfl rfl) (fun hg => Ql (Vg (V rfl) hg) K) <| U (Qa (V rfl) (fun h => Vg (V rfl) h)) <| U (Mv (V rfl)) <| Ug (Gy rfl rfl) (fun hg => Mv (V rfl)) <| UwG (Gy rfl rfl) (fun hg => w_bs (n := 3) (zget := fun _ => iv 0) [(fun _ => iv (0)), (fun _ => iv (2)), (fun _ => iv (1))] (rowG inCell 0 [0, 2, 1]) Un33 Sz3 zero3 (by decide) rfl (by decide) ⟨⟨rfl, .inr ⟨rfl, K, rfl⟩, rfl⟩, ⟨rfl, .inr ⟨rfl, K, rfl⟩, rfl⟩, ⟨rfl, .inr ⟨rfl, K, rfl⟩, rfl⟩, Z⟩ ⟨⟨⟨Z, ⟨Z, rfl⟩⟩, ⟨Z, rfl⟩⟩, ⟨Z, rfl⟩⟩) <| t_callBG (Gy rfl rfl) en26 (fun hg => by exact ⟨(vb_own (Vg (V rfl) hg) rfl), (vb_ro (Vg (V rfl) hg) rfl), Z⟩) (fun hg => equal_ct ((orderSt fam5 ⟨0, 1⟩).1) ([0, 2, 1])) <| U (Qa (V rfl) (fun h => Vg (V rfl) h)) <| U (As (V rfl)) <| Nt <| Rx <| R1 rfl (V rfl) rfl (by show bv (((true && (decide ((orderSt fam5 ⟨0, 1⟩).2 = 0))) && (decide ((insSt fam5 ⟨1, 1⟩ ⟨0, 1⟩ ([])).2 = 6))) && (eqInt ((orderSt fam5 ⟨0, 1⟩).1) ([0, 2, 1]))) = bv true; exact congrArg bv (by decide +kernel))
end Go.Proofs.Ytmcdamcedemdiaa
namespace Go.Proofs.Ytmcdamcedemdiaa
open Go.RowKit Go.Eng
structure InsDone (l : List Nd) (p c : Hd) (ah : List Hd) (a : List Nd) : Prop where
  k : InsOk l p c ah
  one : ah.length ≤ 1
  q3 : insBad l p c = false
  q4 : ¬ (0 < ah.length ∧ (l.getD (hd0 ah).pl.toNat default).par ≠ p.pl)
  how : ((0 < ah.length ∧ (hd0 ah).pl = c.pl) ∧ a = l) ∨ (¬ (0 < ah.length ∧ (hd0 ah).pl = c.pl) ∧ a = putSt (outSt l c.pl) p.pl c.pl (insPos ((outSt l c.pl).getD p.pl.toNat default).kids ah))
section
variable {l a : List Nd} {p c : Hd} {ah : List Hd}
theorem insDone_of (e : (insSt l p c ah).2 = 0) : InsDone l p c ah (insSt l p c ah).1 := by
  by_cases q : 1 < ah.length
  · rw [ins_1 q] at e; cases e
  by_cases q2 : firstSt l ([p, c] ++ ah) = 0
  · cases q3 : insBad l p c with
    | true => rw [ins_3 q q2 q3] at e; cases e
    | false =>
      by_cases q4 : 0 < ah.length ∧ (l.getD (hd0 ah).pl.toNat default).par ≠ p.pl
      · rw [ins_4 q q2 q3 q4] at e; cases e
      · by_cases q5 : 0 < ah.length ∧ (hd0 ah).pl = c.pl
        · exact ⟨insOk_of q2, Nat.le_of_not_lt q, q3, q4, .inl ⟨q5, by rw [ins_5 q q2 q3 q4 q5]⟩⟩
        · exact ⟨insOk_of q2, Nat.le_of_not_lt q, q3, q4, .inr ⟨q5, by rw [ins_6 q q2 q3 q4 q5]⟩⟩
  · rw [ins_2 q q2] at e; exact absurd e q2
structure Alike (l a : List Nd) : Prop where
  len : a.length = l.length
  used : ∀ q : Int, 0 ≤ q ∧ q < (l.length : Int) → (a.getD q.toNat default).used = (l.getD q.toNat default).used
  uses : ∀ q : Int, 0 ≤ q ∧ q < (l.length : Int) → (a.getD q.toNat default).uses = (l.getD q.toNat default).uses
theorem put_node (D : InsDone l p c ah a) {i : Nat} {q : Int} (hq : 0 ≤ q ∧ q < (l.length : Int)) : (putSt (outSt l c.pl) p.pl c.pl i).getD q.toNat default =
    { (l.getD q.toNat default) with kids := if q = p.pl then insAt ((l.getD q.toNat default).kids.filter fun x => !decide (x = c.pl)) i c.pl else (l.getD q.toNat default).kids.filter fun x => !decide (x = c.pl), par := if q = c.pl then p.pl else (l.getD q.toNat default).par } := by
  have hl := out_len l c.pl
  rw [put_at (by rw [hl]; exact D.k.pr) (by rw [hl]; exact D.k.cr) hq.1, out_at D.k.ok D.k.cr hq]
  dsimp only
  by_cases e : q = c.pl
  · rw [if_pos e, if_pos e]
  · rw [if_neg e, if_neg e, if_neg e]
theorem ins_alike (D : InsDone l p c ah a) : Alike l a := by
  rcases D.how with ⟨_, rfl⟩ | ⟨_, rfl⟩
  · exact ⟨rfl, fun _ _ => rfl, fun _ _ => rfl⟩
  · refine ⟨by rw [put_len, out_len], fun q hq => ?_, fun q hq => ?_⟩
    · rw [put_node D hq]
    · rw [put_node D hq]
theorem holds_alike (A : Alike l a) (h : Hd) (hq : 0 ≤ h.pl ∧ h.pl < (l.length : Int)) : holdsSt a h = holdsSt l h := by
  unfold holdsSt holdsWho holdsGone
  rw [A.len, A.used _ hq, A.uses _ hq]
theorem ins_right (D : InsDone l p c ah a) : checkSt a = 0 := by
  rcases D.how with ⟨_, rfl⟩ | ⟨_, rfl⟩
  · exact D.k.ok
  · exact put_ok D.k D.q3
theorem ins_hc (D : InsDone l p c ah a) : holdsSt a c = 0 := by rw [holds_alike (ins_alike D) c D.k.cr]; exact D.k.ch
theorem ins_hp (D : InsDone l p c ah a) : holdsSt a p = 0 := by rw [holds_alike (ins_alike D) p D.k.pr]; exact D.k.ph
theorem ins_par (D : InsDone l p c ah a) : (a.getD c.pl.toNat default).par = p.pl := by
  rcases D.how with ⟨⟨h0, e⟩, rfl⟩ | ⟨_, rfl⟩
  · rw [← e]; exact Classical.byContradiction fun q => D.q4 ⟨h0, q⟩
  · rw [put_node D D.k.cr]; exact if_pos rfl
theorem idx_ins {ks : List Int} {i : Nat} {c : Int} (hi : i ≤ ks.length) (hc : ¬ c ∈ ks) : idxI (insAt ks i c) c = (i : Int) := by
  have e : (insAt ks i c).getD i 0 = c := by
    simp only [insAt, List.getD_eq_getElem?_getD]
    rw [List.append_assoc, List.getElem?_append_right (by rw [List.length_take]; omega), List.length_take, show i - min i ks.length = 0 by omega]; rfl
  have hl : i < (insAt ks i c).length := by simp only [insAt, List.length_append, List.length_take, List.length_drop, List.length_cons, List.length_nil]; omega
  refine idxF_hit 0 hl (fun j hj => ?_) (decide_eq_true e.symm)
  rw [decide_eq_false_iff_not]
  intro q
  have e2 : (insAt ks i c).getD j 0 = ks.getD j 0 := by
    simp only [insAt, List.getD_eq_getElem?_getD]
    rw [List.append_assoc, List.getElem?_append_left (by rw [List.length_take]; omega), List.getElem?_take, if_pos hj]
  rw [e2] at q
  exact hc (q ▸ mem_getD (by omega))
theorem ins_len {ks : List Int} {i : Nat} {c : Int} : (insAt ks i c).length = ks.length + 1 := by simp only [insAt, List.length_append, List.length_take, List.length_drop, List.length_cons, List.length_nil]; omega
theorem ins_next {ks : List Int} {i : Nat} {c : Int} (hi : i < ks.length) : (insAt ks i c).getD (i + 1) 0 = ks.getD i 0 := by
  simp only [insAt, List.getD_eq_getElem?_getD]
  rw [List.getElem?_append_right (by rw [List.length_append, List.length_take, List.length_cons, List.length_nil]; omega), List.length_append, List.length_take, List.length_cons, List.length_nil, List.getElem?_drop]
  congr 2; omega
structure KidAt (ks : List Int) (p c : Hd) (ah : List Hd) : Prop where
  pos : 0 ≤ idxI ks c.pl ∧ idxI ks c.pl < (ks.length : Int)
  last : ah.length = 0 → idxI ks c.pl = (ks.length : Int) - 1
  next : 0 < ah.length → hd0 ah ≠ c → idxI ks c.pl + 1 < (ks.length : Int) ∧ ks.getD (idxI ks c.pl + 1).toNat 0 = (hd0 ah).pl
theorem hd_eq {l : List Nd} {h k : Hd} (a : holdsSt l h = 0) (b : holdsSt l k = 0) (e : h.pl = k.pl) : h = k := by
  have h1 := holds_in a; have h2 := holds_in b
  rw [e] at h1
  obtain ⟨x, y⟩ := h; obtain ⟨x', y'⟩ := k
  have e : x = x' := e
  have e2 : y = y' := h1.2.2.2.2.symm.trans h2.2.2.2.2
  rw [e, e2]
theorem ins_kid (D : InsDone l p c ah a) : KidAt (a.getD p.pl.toNat default).kids p c ah := by
  rcases D.how with ⟨⟨h0, e⟩, ea⟩ | ⟨q5, ea⟩
  · have hp := ins_par D
    have hm := (par_kid (ins_right D) (x := c.pl) (by rw [ea]; exact D.k.cr) (by rw [hp]; exact D.k.pr.1)).2
    rw [hp] at hm
    have hh : hd0 ah = c := hd_eq (D.k.ahh h0) D.k.ch e
    rcases idxI_cases (a.getD p.pl.toNat default).kids c.pl with ⟨_, b⟩ | ⟨i, ei, hi, _, _⟩
    · exact absurd hm b
    · exact ⟨by omega, fun q => by omega, fun _ q => absurd hh q⟩
  · rw [ea, put_node D D.k.pr]
    dsimp only
    rw [if_pos rfl]
    have ek : ((l.getD p.pl.toNat default).kids.filter fun x => !decide (x = c.pl)) = ((outSt l c.pl).getD p.pl.toNat default).kids := by rw [out_at D.k.ok D.k.cr D.k.pr]
    rw [ek]
    have hc : ¬ c.pl ∈ ((outSt l c.pl).getD p.pl.toNat default).kids := by
      rw [← ek, mem_cut]; exact fun q => q.2 rfl
    by_cases h0 : 0 < ah.length
    · have hpos := pos_le D.k D.q4 q5 h0
      have hm := ah_kid D.k D.q4 q5 h0
      rcases idxI_cases ((outSt l c.pl).getD p.pl.toNat default).kids (hd0 ah).pl with ⟨_, b⟩ | ⟨i, ei, hi, eg, _⟩
      · exact absurd hm b
      · have ep : insPos ((outSt l c.pl).getD p.pl.toNat default).kids ah = i := by rw [insPos, if_pos h0, ei, Int.toNat_natCast]
        rw [ep]
        have e1 := idx_ins (c := c.pl) (Nat.le_of_lt hi) hc
        refine ⟨by rw [e1, ins_len]; omega, fun q => by omega, fun _ _ => ?_⟩
        rw [e1, ins_len, show ((i : Int) + 1).toNat = i + 1 by omega, ins_next hi]
        exact ⟨by omega, eg⟩
    · have ep : insPos ((outSt l c.pl).getD p.pl.toNat default).kids ah = ((outSt l c.pl).getD p.pl.toNat default).kids.length := by rw [insPos, if_neg h0]
      rw [ep]
      have e1 := idx_ins (c := c.pl) (Nat.le_refl _) hc
      exact ⟨by rw [e1, ins_len]; omega, fun _ => by rw [e1, ins_len]; omega, fun q => absurd q h0⟩
theorem not_under (D : InsDone l p c ah a) (m : Nat) : pN l m p.pl ≠ c.pl := fun e => by
  have h0 : 0 ≤ pN l m p.pl := by rw [e]; exact D.k.cr.1
  have := pN_up D.k.ok D.k.pr h0
  exact under_f D.k.ok (by have := D.k.pr; omega) D.k.cr.1 (bad_f D.q3).2 m (this ▸ e)
theorem cut_self (h : checkSt l = 0) {x k : Int} (hx : 0 ≤ x ∧ x < (l.length : Int)) (hk : 0 ≤ k ∧ k < (l.length : Int)) {m : Nat} (e : pN l m x = k) : (l.getD x.toNat default).kids.filter (fun y => !decide (y = k)) = (l.getD x.toNat default).kids := by
  refine cut_none h hx fun q => ?_
  have e2 : pN l (1 + m) k = k := by
    rw [pN_add l 1 k m]
    show pN l m (p1 l k) = k
    rw [p1, if_neg (by omega), ← q]; exact e
  have := pN_inj h hk (a := 0) (b := 1 + m) hk.1 e2.symm
  omega
theorem ord_sub (D : InsDone l p c ah a) : ∀ (n m : Nat) (x : Int), 0 ≤ x ∧ x < (l.length : Int) → pN l m x = c.pl → ordN a n x = ordN l n x
  | 0, _, _, _, _ => rfl
  | n + 1, m, x, hx, e => by
    have ek : (a.getD x.toNat default).kids = (l.getD x.toNat default).kids := by
      rcases D.how with ⟨_, ea⟩ | ⟨_, ea⟩
      · rw [ea]
      · rw [ea, put_node D hx]
        dsimp only
        rw [if_neg (show ¬ x = p.pl from fun q => not_under D m (q ▸ e)), cut_self D.k.ok hx D.k.cr e]
    show x :: _ = x :: _
    rw [ek]
    refine congrArg (x :: ·) (flat_congr fun y hy => ?_)
    obtain ⟨hy1, _, hy2, _⟩ := kid_up D.k.ok hx hy
    refine ord_sub D n (1 + m) y hy1 ?_
    rw [pN_add l 1 y m]
    show pN l m (p1 l y) = c.pl
    rw [p1, if_neg (by omega), hy2]; exact e
theorem ord_child (D : InsDone l p c ah a) : ordSt a c.pl = ordSt l c.pl := by
  unfold ordSt
  rw [(ins_alike D).len]
  exact ord_sub D _ 0 _ D.k.cr rfl
theorem first_1 {l : List Nd} {h : Hd} (a : checkSt l = 0) (b : holdsSt l h = 0) : firstSt l [h] = 0 := by
  show stepH l (checkSt l) h = 0
  rw [a]; exact b
theorem ins_order (D : InsDone l p c ah a) : orderSt a c = orderSt l c ∧ (orderSt l c).2 = 0 := by
  rw [order_2 (first_1 (ins_right D) (ins_hc D)), order_2 (first_1 D.k.ok D.k.ch), ord_child D]
  exact ⟨rfl, rfl⟩
theorem ins_rem (D : InsDone l p c ah a) : remSt a c = (outSt a c.pl, 0) := rem_3 (first_1 (ins_right D) (ins_hc D)) (by rw [ins_par D]; have := D.k.pr; omega)
theorem ins_remok (D : InsDone l p c ah a) : (remSt a c).2 = 0 ∧ checkSt (remSt a c).1 = 0 := by
  have hr : 0 ≤ c.pl ∧ c.pl < (a.length : Int) := by rw [(ins_alike D).len]; exact D.k.cr
  rw [ins_rem D]
  exact ⟨rfl, right_of (out_right (ins_right D) hr (by rw [(ins_alike D).used _ D.k.cr]; exact D.k.cu))⟩
theorem ins_back (D : InsDone l p c ah a) (h0 : (l.getD c.pl.toNat default).par < 0) : (remSt a c).1 = l := by
  have hr : 0 ≤ c.pl ∧ c.pl < (a.length : Int) := by rw [(ins_alike D).len]; exact D.k.cr
  rcases D.how with ⟨⟨hh, e⟩, ea⟩ | ⟨_, ea⟩
  · have := ins_par D
    rw [ea] at this
    have := D.k.pr
    omega
  · rw [ins_rem D]
    refine nd_ext (by rw [out_len]; exact (ins_alike D).len) fun q hq => ?_
    rw [out_len, (ins_alike D).len] at hq
    show (outSt a c.pl).getD q.toNat default = _
    rw [out_at (ins_right D) hr (by rw [(ins_alike D).len]; exact hq), ea, put_node D hq]
    dsimp only
    have hcut := cut_none D.k.ok (c := c.pl) hq (by omega)
    have hp1 := (st_n1 D.k.ok D.k.cr).par
    have hk : List.filter (fun x => !decide (x = c.pl)) (if q = p.pl then insAt ((l.getD q.toNat default).kids.filter fun x => !decide (x = c.pl)) (insPos ((outSt l c.pl).getD p.pl.toNat default).kids ah) c.pl else (l.getD q.toNat default).kids.filter fun x => !decide (x = c.pl)) = (l.getD q.toNat default).kids := by
      split
      · rw [cut_ins (by rw [mem_cut]; exact fun w => w.2 rfl)]; exact hcut
      · rw [hcut]; exact hcut
    rw [hk]
    by_cases e : q = c.pl
    · rw [if_pos e]
      have : (l.getD q.toNat default).par = -1 := by rw [e]; omega
      rw [← this]
    · rw [if_neg e, if_neg e]
theorem find_alike (D : InsDone l p c ah a) : findSt a c = (a.getD c.pl.toNat default, 0) ∧ findSt a p = (a.getD p.pl.toNat default, 0) ∧ findSt l c = (l.getD c.pl.toNat default, 0) :=
  ⟨find_3 (ins_right D) (ins_hc D), find_3 (ins_right D) (ins_hp D), find_3 D.k.ok D.k.ch⟩
theorem keepsA (D : InsDone l p c ah a) : ((((!decide (checkSt a = 0)) || (!decide ((findSt a c).2 = 0))) || (!decide ((findSt a p).2 = 0))) || (!decide ((findSt a c).1.par = p.pl))) = false := by
  rw [ins_right D, (find_alike D).1, (find_alike D).2.1]
  dsimp only
  rw [ins_par D, decide_eq_true rfl, decide_eq_true rfl]; rfl
theorem keepsK (D : InsDone l p c ah a) : KidAt (findSt a p).1.kids p c ah ∧ (findSt a p).1.kids.length ≤ 24 := by
  rw [(find_alike D).2.1]
  refine ⟨ins_kid D, kids_few (ins_right D) ?_⟩
  rw [(ins_alike D).len]; have := D.k.pr; omega
theorem keepsB {ks : List Int} (K : KidAt ks p c ah) : (((decide (idxI ks c.pl < 0)) || ((decide ((ah.length : Int) = 0)) && (!decide (idxI ks c.pl = (ks.length : Int) - 1)))) || (((decide (0 < (ah.length : Int))) && (!decide ((ah.getD (Int.toNat 0) default) = c))) && ((decide ((ks.length : Int) ≤ idxI ks c.pl + 1)) || (!decide (ks.getD (Int.toNat (idxI ks c.pl + 1)) 0 = (ah.getD (Int.toNat 0) default).pl))))) = false := by
  have h1 := K.pos
  rw [decide_eq_false (show ¬ idxI ks c.pl < 0 by omega), Bool.false_or]
  by_cases h0 : ah.length = 0
  · rw [decide_eq_true (K.last h0), decide_eq_false (show ¬ 0 < (ah.length : Int) by omega)]; simp
  · rw [decide_eq_false (show ¬ (ah.length : Int) = 0 by omega), Bool.false_and, Bool.false_or]
    by_cases e : (ah.getD (Int.toNat 0) default) = c
    · rw [decide_eq_true e]; simp
    · obtain ⟨h2, h3⟩ := K.next (by omega) e
      have h3 : ks.getD (Int.toNat (idxI ks c.pl + 1)) 0 = (ah.getD (Int.toNat 0) default).pl := h3
      rw [decide_eq_false (show ¬ (ks.length : Int) ≤ idxI ks c.pl + 1 by omega), decide_eq_true h3]; simp
theorem keepsC (D : InsDone l p c ah a) : (((((!decide ((orderSt l c).2 = 0)) || (!decide ((orderSt a c).2 = 0))) || (!decide ((remSt a c).2 = 0))) || (!eqInt (orderSt l c).1 (orderSt a c).1)) || (!decide (checkSt (remSt a c).1 = 0))) = false := by
  rw [(ins_order D).1, (ins_order D).2, (ins_remok D).1, (ins_remok D).2, eqInt, decide_eq_true rfl, decide_eq_true rfl]; rfl
theorem keepsZ (D : InsDone l p c ah a) : ((decide ((findSt l c).2 = 0)) && ((decide (0 ≤ (findSt l c).1.par)) || (decide ((remSt a c).1 = l)))) = true := by
  rw [(find_alike D).2.2]
  dsimp only
  by_cases h0 : 0 ≤ (l.getD c.pl.toNat default).par
  · rw [decide_eq_true h0]; rfl
  · rw [decide_eq_true (ins_back D (by omega))]; simp
end
end Go.Proofs.Ytmcdamcedemdiaa
namespace Go.Proofs.Ytmcdamcedemdiaa
open Go.RowKit Go.Eng
theorem treeKeeps_ct (l : List Nd) (p c : Hd) (ah : List Hd) (hb : ∀ n ∈ l, n.kids.length ≤ 17592186043904) : Ct Try.prog 11 [SV.agg 1 (stG l), SV.agg 2 (hdCell p), SV.agg 2 (hdCell c), hdRow ah] (bv true) := by
 refine CtO 175 Try.func11 rfl rfl rfl fun E => row_lenA 0 (V (s := 0) rfl) rfl rfl fun hl0_0 => Rl (V (s := 3) rfl) fun hl3 => Sq <| Rt <| BxA 1 (V rfl) rfl rfl <| BxA 2 (V rfl) rfl rfl <| BxA 3 (V rfl) rfl rfl <| U (As K) <| Nt <| Sq <| Rt <| U (LBA (V rfl) rfl Ga24 Sz24 (by decide)) <| U (LBA (V rfl) rfl Ga26 Sz26 (by decide)) <| U (LBA (V rfl) rfl Ga26 Sz26 (by decide)) <| U (Mv (V rfl)) <| CT en56 (by exact ⟨⟨(Vi (g' := stG l) (V rfl) ⟨Z, Ir⟩), rfl⟩, ⟨(Vi (g' := hdCell ⟨p.pl, p.use⟩) (V rfl) ⟨⟨Z, Ir⟩, Ir⟩), rfl⟩, ⟨(Vi (g' := hdCell ⟨c.pl, c.use⟩) (V rfl) ⟨⟨Z, Ir⟩, Ir⟩), rfl⟩, ⟨(V rfl), rfl⟩, Z⟩) (insert_ct l p c ah (by first | assumption | exact kb_nil | exact kb_of (by assumption) | exact kb_of fam_c5)) <| U (Mv (V rfl)) <| U (Xt (V rfl) (by decide)) <| U (Xt (V rfl) (by decide)) <| Al 4 zero24 rfl rfl <| StA (V rfl) rfl (V rfl) Sz24 <| U (As (V rfl)) <| Nt <| Sq <| Sq <| Rt <| CT en57 (by exact Z) (grown_ct) <| U (Qo (V rfl)) <| U (Mv (V rfl)) <| Ug (Gn rfl rfl) (fun hg => Mv (V rfl)) <| Ug (Gn rfl rfl) (fun hg => Qn (Vg (V rfl) hg) K) <| U (Qr (V rfl) (fun h => Vg (V rfl) (notT h))) <| Nt <| Cd (V rfl) (fun hc1 => ?_) (fun hc1 => ?_)
 ·have hc1s := hc1; try simp only [BL] at hc1s
  exact Sq <| Rt <| CT en57 (by exact Z) (grown_ct) <| U (As (V rfl)) <| Nt <| Rx <| R1 rfl (V rfl) rfl (by show bv (true) = bv true; rfl)
 ·have hc1s := hc1; try simp only [BL] at hc1s
  have hq : (insSt l p c ah).2 = 0 := by simpa using hc1s
  have D := insDone_of hq
  have hA := ins_right D
  have hRm := (ins_remok D).2
  have hc0 := D.k.ok
  have hK := (keepsK D).1
  have hK24 := (keepsK D).2
  have hkp := hK.pos
  refine Sk <| Sq <| Rt <| U (LBA (V rfl) rfl Ga24 Sz24 (by decide)) <| U (LBA (V rfl) rfl Ga26 Sz26 (by decide)) <| CT en46 (by exact ⟨⟨(Vi (g' := stG ((insSt l p c ah).1)) (V rfl) ⟨Z, Ir⟩), rfl⟩, ⟨(Vi (g' := hdCell ⟨c.pl, c.use⟩) (V rfl) ⟨⟨Z, Ir⟩, Ir⟩), rfl⟩, Z⟩) (find_ct ((insSt l p c ah).1) c (by first | assumption | exact kb_nil | exact kb_of (by assumption) | exact kb_of fam_c5)) <| U (Mv (V rfl)) <| U (Xt (V rfl) (by decide)) <| U (Xt (V rfl) (by decide)) <| Al 5 zero61 rfl rfl <| StA (V rfl) rfl (V rfl) Sz61 <| U (As (V rfl)) <| Nt <| Sq <| Rt <| U (LBA (V rfl) rfl Ga24 Sz24 (by decide)) <| U (LBA (V rfl) rfl Ga26 Sz26 (by decide)) <| CT en46 (by exact ⟨⟨(Vi (g' := stG ((insSt l p c ah).1)) (V rfl) ⟨Z, Ir⟩), rfl⟩, ⟨(Vi (g' := hdCell ⟨p.pl, p.use⟩) (V rfl) ⟨⟨Z, Ir⟩, Ir⟩), rfl⟩, Z⟩) (find_ct ((insSt l p c ah).1) p (by first | assumption | exact kb_nil | exact kb_of (by assumption) | exact kb_of fam_c5)) <| U (Mv (V rfl)) <| U (Xt (V rfl) (by decide)) <| U (Xt (V rfl) (by decide)) <| Al 6 zero61 rfl rfl <| StA (V rfl) rfl (V rfl) Sz61 <| U (As (V rfl)) <| Nt <| Sq <| Sq <| Rq <| O (LBA (V rfl) rfl Ga24 Sz24 (by decide)) <| CQ en44 (by exact ⟨⟨(Vi (g' := stG ((insSt l p c ah).1)) (V rfl) ⟨Z, Ir⟩), rfl⟩, Z⟩) (stcheck_ct ((insSt l p c ah).1) (by first | assumption | exact kb_nil | exact kb_of (by assumption) | exact kb_of fam_c5)) <| O (Qn (V rfl) K) <| O (Mv (V rfl)) <| Og (Gn rfl rfl) (fun hg => Mv (V rfl)) <| Og (Gn rfl rfl) (fun hg => Qn (Vg (V rfl) hg) K) <| O (Qr (V rfl) (fun h => Vg (V rfl) (notT h))) <| O (Mv (V rfl)) <| Og (Gn rfl rfl) (fun hg => Mv (V rfl)) <| Og (Gn rfl rfl) (fun hg => Qn (Vg (V rfl) hg) K) <| O (Qr (V rfl) (fun h => Vg (V rfl) (notT h))) <| O (Mv (V rfl)) <| ?_
  refine Og (Gn rfl rfl) (fun hg => FlB _ _ (V rfl) Un61 rfl 0 Sz3) <| Og (Gn rfl rfl) (fun hg => LdB (Vg (V rfl) hg) rfl Ga3 (by decide)) <| Og (Gn rfl rfl) (fun hg => FlB _ _ (V rfl) Un26 rfl 0 Sz3) <| Og (Gn rfl rfl) (fun hg => LdB (Vg (V rfl) hg) rfl Ga3 (by decide)) <| Og (Gn rfl rfl) (fun hg => Qn (Vg (V rfl) hg) (Vg (V rfl) hg)) <| O (Qr (V rfl) (fun h => Vg (V rfl) (notT h))) <| Nq <| Cd (V rfl) (fun hc2 => ?_) (fun hc2 => ?_)
  ·have hc2s := hc2; try simp only [BL] at hc2s
   exact absurd hc2 (ff (keepsA D))
   --done
  ·have hc2s := hc2; try simp only [BL] at hc2s
   refine Sk <| Sq <| Rq <| O (FlB _ _ (V rfl) Un61 rfl 0 Sz33) <| O (LdB (V rfl) rfl Ga33 (by decide)) <| O (FlB _ _ (V rfl) Un26 rfl 0 Sz3) <| O (LdB (V rfl) rfl Ga3 (by decide)) <| CQ en62 (by exact ⟨⟨(V rfl), rfl⟩, ⟨(V rfl), rfl⟩, Z⟩) (index_ct ((findSt ((insSt l p c ah).1) p).1.kids) c.pl) <| O (As (V rfl)) <| Nq <| Sq <| Sq <| Rqd (by kernel_rfl) (by kernel_rfl) <| O (Mv (V rfl)) <| O (Lt (V rfl) K) <| O (Mv (V rfl)) <| Og (Gn rfl rfl) (fun hg => Mv (V rfl)) <| Og (Gn rfl rfl) (fun hg => Ln (Vg (V rfl) hg) ts80) <| Og (Gn rfl rfl) (fun hg => Ql (Vg (V rfl) hg) K) <| Og (Gn rfl rfl) (fun hg => Mv (Vg (V rfl) hg)) <| Og (Gyy rfl rfl) (fun hg => Mv (V rfl)) <| Og (Gyy rfl rfl) (fun hg => FlB _ _ (V rfl) Un61 rfl 0 Sz33) <| Og (Gyy rfl rfl) (fun hg => LdB (Vg (V rfl) hg) rfl Ga33 (by decide)) <| Og (Gyy rfl rfl) (fun hg => Ln (Vg (V rfl) hg) ts33) <| Og (Gyy rfl rfl) (fun hg => Sb (Vg (V rfl) hg) K (by omega)) <| Og (Gyy rfl rfl) (fun hg => Qn (Vg (V rfl) hg) (Vg (V rfl) hg)) <| Og (Gn rfl rfl) (fun hg => Qa (Vg (V rfl) hg) (fun h => Vg (V rfl) (andI hg h))) <| O (Qr (V rfl) (fun h => Vg (V rfl) (notT h))) <| O (Mv (V rfl)) <| Og (Gn rfl rfl) (fun hg => Mv (V rfl)) <| Og (Gn rfl rfl) (fun hg => Ln (Vg (V rfl) hg) ts80) <| Og (Gn rfl rfl) (fun hg => Gt (Vg (V rfl) hg) K) <| Og (Gn rfl rfl) (fun hg => Mv (Vg (V rfl) hg)) <| Og (Gyy rfl rfl) (fun hg => Mv (V rfl)) <| Og (Gyy rfl rfl) (fun hg => Ix (Vg (V rfl) hg) K ts80 te80 (by omega) (by have hq := hg; simp only [BL] at hq; omega)) <| Og (Gyy rfl rfl) (fun hg => LdA (Vg (V rfl) hg) Ga26 Sz26 (by decide)) <| Og (Gyy rfl rfl) (fun hg => LBA (V rfl) rfl Ga26 Sz26 (by decide)) <| Og (Gyy rfl rfl) (fun hg => q_eqS (hdVal ((ah.getD 0 default))) (hdVal c) (Vg (V rfl) hg) (Vg (V rfl) hg) ⟨⟨Z, rfl⟩, rfl⟩ ⟨⟨Z, rfl⟩, rfl⟩ (fun w => neS26 _ _ _ _ w)) <| Og (Gn rfl rfl) (fun hg => Qa (Vg (V rfl) hg) (fun h => Vg (V rfl) (andI hg h))) <| Og (Gn rfl rfl) (fun hg => Mv (Vg (V rfl) hg)) <| ?_
   refine Og (Gyy rfl rfl) (fun hg => Mv (V rfl)) <| Og (Gyy rfl rfl) (fun hg => Ad (Vg (V rfl) hg) K (by omega)) <| Og (Gyy rfl rfl) (fun hg => FlB _ _ (V rfl) Un61 rfl 0 Sz33) <| Og (Gyy rfl rfl) (fun hg => LdB (Vg (V rfl) hg) rfl Ga33 (by decide)) <| Og (Gyy rfl rfl) (fun hg => Ln (Vg (V rfl) hg) ts33) <| Og (Gyy rfl rfl) (fun hg => Ge (Vg (V rfl) hg) (Vg (V rfl) hg)) <| Og (Gyy rfl rfl) (fun hg => Mv (Vg (V rfl) hg)) <| Og (Gyn rfl rfl) (fun hg => FlB _ _ (V rfl) Un61 rfl 0 Sz33) <| Og (Gyn rfl rfl) (fun hg => LdB (Vg (V rfl) hg) rfl Ga33 (by decide)) <| Og (Gyn rfl rfl) (fun hg => Mv (V rfl)) <| Og (Gyn rfl rfl) (fun hg => Ad (Vg (V rfl) hg) K (by omega)) <| Og (Gyn rfl rfl) (fun hg => Ix (Vg (V rfl) hg) (Vg (V rfl) hg) ts33 te33 (by omega) (by have hq := hg; simp only [BL] at hq; omega)) <| Og (Gyn rfl rfl) (fun hg => Ld (Vg (V rfl) hg) Ga3 (by decide)) <| Og (Gyn rfl rfl) (fun hg => Mv (V rfl)) <| Og (Gyn rfl rfl) (fun hg => Ix (Vg (V rfl) hg) K ts80 te80 (by omega) (by have hq := hg; simp only [BL] at hq; omega)) <| Og (Gyn rfl rfl) (fun hg => Fl _ _ (Vg (V rfl) hg) Un26 rfl 0 Sz3) <| Og (Gyn rfl rfl) (fun hg => Ld (Vg (V rfl) hg) Ga3 (by decide)) <| Og (Gyn rfl rfl) (fun hg => Qn (Vg (V rfl) hg) (Vg (V rfl) hg)) <| Og (Gyy rfl rfl) (fun hg => Qr (Vg (V rfl) hg) (fun h => Vg (V rfl) (andI hg (notT h)))) <| Og (Gn rfl rfl) (fun hg => Qa (Vg (V rfl) hg) (fun h => Vg (V rfl) (andI hg h))) <| O (Qr (V rfl) (fun h => Vg (V rfl) (notT h))) <| Nq <| Cd (V rfl) (fun hc3 => ?_) (fun hc3 => ?_)
   ·have hc3s := hc3; try simp only [BL] at hc3s
    exact absurd hc3 (ff (keepsB hK))
    --done
   ·have hc3s := hc3; try simp only [BL] at hc3s
    refine Sk <| Sq <| Rt <| U (LBA (V rfl) rfl Ga24 Sz24 (by decide)) <| U (LBA (V rfl) rfl Ga26 Sz26 (by decide)) <| CM (cargs := [SV.agg 1 (stG l), SV.agg 2 (hdCell ⟨c.pl, c.use⟩)]) [] [(0, 7)] en58 (mv0 (by exact ⟨⟨(Vi (g' := stG l) (V rfl) ⟨Z, Ir⟩), rfl⟩, ⟨(Vi (g' := hdCell ⟨c.pl, c.use⟩) (V rfl) ⟨⟨Z, Ir⟩, Ir⟩), rfl⟩, Z⟩)) (order_ct l c (by first | assumption | exact kb_nil | exact kb_of (by assumption) | exact kb_of fam_c5)) (by exact Z) rfl rfl rfl rfl <| U (Mv (V rfl)) <| U (Xt (V rfl) (by decide)) <| U (Xt (V rfl) (by decide)) <| U (As (V rfl)) <| U (As (V rfl)) <| Nt <| Sq <| Rt <| U (LBA (V rfl) rfl Ga24 Sz24 (by decide)) <| U (LBA (V rfl) rfl Ga26 Sz26 (by decide)) <| CM (cargs := [SV.agg 1 (stG ((insSt l p c ah).1)), SV.agg 2 (hdCell ⟨c.pl, c.use⟩)]) [] [(0, 8)] en58 (mv0 (by exact ⟨⟨(Vi (g' := stG ((insSt l p c ah).1)) (V rfl) ⟨Z, Ir⟩), rfl⟩, ⟨(Vi (g' := hdCell ⟨c.pl, c.use⟩) (V rfl) ⟨⟨Z, Ir⟩, Ir⟩), rfl⟩, Z⟩)) (order_ct ((insSt l p c ah).1) c (by first | assumption | exact kb_nil | exact kb_of (by assumption) | exact kb_of fam_c5)) (by exact Z) rfl rfl rfl rfl <| U (Mv (V rfl)) <| U (Xt (V rfl) (by decide)) <| U (Xt (V rfl) (by decide)) <| U (As (V rfl)) <| U (As (V rfl)) <| Nt <| Sq <| Rt <| U (LBA (V rfl) rfl Ga24 Sz24 (by decide)) <| U (LBA (V rfl) rfl Ga26 Sz26 (by decide)) <| CT en63 (by exact ⟨⟨(Vi (g' := stG ((insSt l p c ah).1)) (V rfl) ⟨Z, Ir⟩), rfl⟩, ⟨(Vi (g' := hdCell ⟨c.pl, c.use⟩) (V rfl) ⟨⟨Z, Ir⟩, Ir⟩), rfl⟩, Z⟩) (remove_ct ((insSt l p c ah).1) c (by first | assumption | exact kb_nil | exact kb_of (by assumption) | exact kb_of fam_c5)) <| U (Mv (V rfl)) <| U (Xt (V rfl) (by decide)) <| U (Xt (V rfl) (by decide)) <| Al 9 zero24 rfl rfl <| StA (V rfl) rfl (V rfl) Sz24 <| U (As (V rfl)) <| Nt <| Sq <| Sq <| Rq <| O (Mv (V rfl)) <| O (Qn (V rfl) K) <| ?_
    refine O (Mv (V rfl)) <| Og (Gn rfl rfl) (fun hg => Mv (V rfl)) <| Og (Gn rfl rfl) (fun hg => Qn (Vg (V rfl) hg) K) <| O (Qr (V rfl) (fun h => Vg (V rfl) (notT h))) <| O (Mv (V rfl)) <| Og (Gn rfl rfl) (fun hg => Mv (V rfl)) <| Og (Gn rfl rfl) (fun hg => Qn (Vg (V rfl) hg) K) <| O (Qr (V rfl) (fun h => Vg (V rfl) (notT h))) <| O (Mv (V rfl)) <| Og (Gn rfl rfl) (fun hg => Mv (V rfl)) <| Og (Gn rfl rfl) (fun hg => Mv (V rfl)) <| tq_callBG (Gn rfl rfl) en26 (fun hg => by exact ⟨(vb_own (Vg (V rfl) hg) rfl), (vb_own (Vg (V rfl) hg) rfl), Z⟩) (fun hg => equal_ct ((orderSt l c).1) ((orderSt ((insSt l p c ah).1) c).1)) <| Og (Gn rfl rfl) (fun hg => Qo (Vg (V rfl) hg)) <| O (Qr (V rfl) (fun h => Vg (V rfl) (notT h))) <| O (Mv (V rfl)) <| Og (Gn rfl rfl) (fun hg => LBA (V rfl) rfl Ga24 Sz24 (by decide)) <| CQg (Gn rfl rfl) en44 (fun hg => (by exact ⟨⟨(Vi (g' := stG ((remSt ((insSt l p c ah).1) c).1)) (Vg (V rfl) hg) ⟨Z, Ir⟩), rfl⟩, Z⟩)) (fun hg => stcheck_ct ((remSt ((insSt l p c ah).1) c).1) (by first | assumption | exact kb_nil | exact kb_of (by assumption) | exact kb_of fam_c5)) <| Og (Gn rfl rfl) (fun hg => Qn (Vg (V rfl) hg) K) <| O (Qr (V rfl) (fun h => Vg (V rfl) (notT h))) <| Nq <| Cd (V rfl) (fun hc4 => ?_) (fun hc4 => ?_)
    ·have hc4s := hc4; try simp only [BL] at hc4s
     exact absurd hc4 (ff (keepsC D))
     --done
    ·have hc4s := hc4; try simp only [BL] at hc4s
     exact Sk <| Sq <| Rt <| U (LBA (V rfl) rfl Ga24 Sz24 (by decide)) <| U (LBA (V rfl) rfl Ga26 Sz26 (by decide)) <| CT en46 (by exact ⟨⟨(Vi (g' := stG l) (V rfl) ⟨Z, Ir⟩), rfl⟩, ⟨(Vi (g' := hdCell ⟨c.pl, c.use⟩) (V rfl) ⟨⟨Z, Ir⟩, Ir⟩), rfl⟩, Z⟩) (find_ct l c (by first | assumption | exact kb_nil | exact kb_of (by assumption) | exact kb_of fam_c5)) <| U (Mv (V rfl)) <| U (Xt (V rfl) (by decide)) <| U (Xt (V rfl) (by decide)) <| Al 10 zero61 rfl rfl <| StA (V rfl) rfl (V rfl) Sz61 <| U (As (V rfl)) <| Nt <| Sq <| Rq <| O (Mv (V rfl)) <| O (Ql (V rfl) K) <| O (Mv (V rfl)) <| Og (Gy rfl rfl) (fun hg => FlB _ _ (V rfl) Un61 rfl 0 Sz3) <| Og (Gy rfl rfl) (fun hg => LdB (Vg (V rfl) hg) rfl Ga3 (by decide)) <| Og (Gy rfl rfl) (fun hg => Ge (Vg (V rfl) hg) K) <| Og (Gy rfl rfl) (fun hg => Mv (Vg (V rfl) hg)) <| Og (Gyn rfl rfl) (fun hg => LBA (V rfl) rfl Ga24 Sz24 (by decide)) <| Og (Gyn rfl rfl) (fun hg => LBA (V rfl) rfl Ga24 Sz24 (by decide)) <| CQg (Gyn rfl rfl) en52 (fun hg => (by exact ⟨⟨(Vi (g' := stG ((remSt ((insSt l p c ah).1) c).1)) (Vg (V rfl) hg) ⟨Z, Ir⟩), rfl⟩, ⟨(Vi (g' := stG l) (Vg (V rfl) hg) ⟨Z, Ir⟩), rfl⟩, Z⟩)) (fun hg => same_ct ((remSt ((insSt l p c ah).1) c).1) l) <| Og (Gy rfl rfl) (fun hg => Qr (Vg (V rfl) hg) (fun h => Vg (V rfl) (andI hg (notT h)))) <| O (Qa (V rfl) (fun h => Vg (V rfl) h)) <| O (As (V rfl)) <| Nq <| Rx <| R1 rfl (V rfl) rfl (by show bv ((decide ((findSt l c).2 = 0)) && ((decide (0 ≤ (findSt l c).1.par)) || (decide (((remSt ((insSt l p c ah).1) c).1 : List Nd) = l)))) = bv true; exact congrArg bv (keepsZ D))
end Go.Proofs.Ytmcdamcedemdiaa
