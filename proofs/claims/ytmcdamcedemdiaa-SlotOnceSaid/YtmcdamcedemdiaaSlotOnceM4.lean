/- What the proof of SlotOnce rests on, part 4: the engine, the walks, the plain laws. -/
import Derived.Test.YtmcdamcedemdiaaSlotOnceM3
set_option linter.unusedVariables false
set_option linter.unusedSimpArgs false
namespace Go.Proofs.Ytmcdamcedemdiaa
open Go.RowKit Go.Eng
theorem insert_ct (l : List Nd) (p c : Hd) (ah : List Hd) (hb : ∀ n ∈ l, n.kids.length ≤ 17592186043904) : Ct Try.prog 56 [SV.agg 1 (stG l), SV.agg 2 (hdCell p), SV.agg 2 (hdCell c), hdRow ah] (sv2 (SV.agg 1 (stG (insSt l p c ah).1)) (iv (insSt l p c ah).2)) := by
 refine CtO 124 Try.func56 rfl rfl rfl fun E => row_lenA 0 (V (s := 0) rfl) rfl rfl fun hl0_0 => Rl (V (s := 3) rfl) fun hl3 => Sq <| Rt <| BxA 1 (V rfl) rfl rfl <| BxA 2 (V rfl) rfl rfl <| BxA 3 (V rfl) rfl rfl <| Al 4 zero24 rfl rfl <| U (As K) <| Nt <| Sq <| Sq <| Rq <| O (Mv (V rfl)) <| O (Ln (V rfl) ts80) <| O (Gt (V rfl) K) <| Nq <| Cd (V rfl) (fun hc1 => ?_) (fun hc1 => ?_)
 ·have hc1s := hc1; try simp only [BL] at hc1s
  exact Sq <| Rt <| U (Bu [] id (cmpG [SV.v (Value.slice none 0 0)]) zero24 build24 (by exact Z) (by decide) ⟨Z, rfl⟩) <| StA (V rfl) rfl (V rfl) Sz24 <| U (As K) <| Nt <| Rx <| RR2 rfl (rv_aggI (g' := stG ([])) (rv_cell (V rfl) rfl Ga24 Sz24) ⟨Z, In⟩) (rv_tmp (V rfl)) rfl rfl (by show sv2 (SV.agg 1 (stG ([]))) (iv (3)) = sv2 (SV.agg 1 (stG (insSt l p c ah).1)) (iv (insSt l p c ah).2); rw [ins_1 (by omega)])
 ·have hc1s := hc1; try simp only [BL] at hc1s
  refine Sk <| Sq <| Sq <| c_rd (fun e => ⟨[(18, cj (e 0) (SV.agg 1 (fun zi => (stG l) (0 + zi)))), (19, cj (e 1) (SV.agg 2 (fun zi => (hdCell p) (0 + zi)))), (20, cj (e 2) (SV.agg 2 (fun zi => (hdCell c) (0 + zi)))), (21, cj (e 3) (cjn (e 5) (SV.own 5))), (22, cj (e 4) (hdRow ah)), (23, cj (e 5) (SV.own 6)), (24, cj (e 6) (iv (firstSt l (([⟨p.pl, p.use⟩, ⟨c.pl, c.use⟩]) ++ ah)))), (10, cj (e 7) (iv (firstSt l (([⟨p.pl, p.use⟩, ⟨c.pl, c.use⟩]) ++ ah)))), (3, hdRow ah), (4, SV.bp 1 0), (5, SV.bp 2 0), (6, SV.bp 3 0), (8, SV.bp 4 0)], (cb (e 3) (cb (e 5) [(1, Own.box 1 (stG l) 24), (2, Own.box 2 (hdCell p) 26), (3, Own.box 2 (hdCell c) 26), (4, Own.box 1 (cmpG [SV.v (Value.slice none 0 0)]) 24), (6, ownOf hdCell 2 default (([⟨p.pl, p.use⟩, ⟨c.pl, c.use⟩]) ++ ah) 26)] [(1, Own.box 1 (stG l) 24), (2, Own.box 2 (hdCell p) 26), (3, Own.box 2 (hdCell c) 26), (4, Own.box 1 (cmpG [SV.v (Value.slice none 0 0)]) 24), (5, ownOf hdCell 2 default ([⟨p.pl, p.use⟩, ⟨c.pl, c.use⟩]) 26)]) (cb (e 5) [] [(1, Own.box 1 (stG l) 24), (2, Own.box 2 (hdCell p) 26), (3, Own.box 2 (hdCell c) 26), (4, Own.box 1 (cmpG [SV.v (Value.slice none 0 0)]) 24)]))⟩) ⟨[(18, SV.agg 1 (fun zi => (stG l) (0 + zi))), (19, SV.agg 2 (fun zi => (hdCell p) (0 + zi))), (20, SV.agg 2 (fun zi => (hdCell c) (0 + zi))), (22, hdRow ah), (23, SV.own 6), (24, iv (firstSt l (([⟨p.pl, p.use⟩, ⟨c.pl, c.use⟩]) ++ ah))), (10, iv (firstSt l (([⟨p.pl, p.use⟩, ⟨c.pl, c.use⟩]) ++ ah))), (3, hdRow ah), (4, SV.bp 1 0), (5, SV.bp 2 0), (6, SV.bp 3 0), (8, SV.bp 4 0)], [(1, Own.box 1 (stG l) 24), (2, Own.box 2 (hdCell p) 26), (3, Own.box 2 (hdCell c) 26), (4, Own.box 1 (cmpG [SV.v (Value.slice none 0 0)]) 24), (6, ownOf hdCell 2 default (([⟨p.pl, p.use⟩, ⟨c.pl, c.use⟩]) ++ ah) 26)]⟩ (by kernel_rfl) (by kernel_rfl) ?_ ⟨?_, ?_, ?_, ?_, ?_, ?_, ?_, ?_, Z⟩ ?_ ?_
  ·show Weak _ _ ⟨[(18, SV.junk), (19, SV.junk), (20, SV.junk), (21, SV.junk), (22, SV.junk), (23, SV.junk), (24, SV.junk), (10, SV.junk), (3, hdRow ah), (4, SV.bp 1 0), (5, SV.bp 2 0), (6, SV.bp 3 0), (8, SV.bp 4 0)], [(1, Own.box 1 (stG l) 24), (2, Own.box 2 (hdCell p) 26), (3, Own.box 2 (hdCell c) 26), (4, Own.box 1 (cmpG [SV.v (Value.slice none 0 0)]) 24)]⟩
   refine We ?_ ?_
   ·exact ⟨Vj, Vj, Vj, Vj, Vj, Vj, Vj, Vj, V rfl, V rfl, V rfl, V rfl, V rfl, Z⟩
   ·exact ⟨⟨_, rfl, ⟨rfl, rfl, (An rfl)⟩⟩, ⟨_, rfl, ⟨rfl, rfl, (An rfl)⟩⟩, ⟨_, rfl, ⟨rfl, rfl, (An rfl)⟩⟩, ⟨_, rfl, ⟨rfl, rfl, (An rfl)⟩⟩, Z⟩
  ·intro e hdn he hdp
   cases hu3 : e 3
   ·have h5 : e 5 = false := fls hu3 fun q => by obtain ⟨r3, -, -⟩ := (show e 3 = true ∧ e 4 = true ∧ True from hdn 5 q); exact r3
    simp only [setE, he, hu3, h5, cj_t, cj_f, cjn_t, cjn_f, cb_t, cb_f]
    refine U (LBA (V rfl) rfl Ga24 Sz24 (by decide)) <| Nt <| We ?_ ?_
    ·exact ⟨V rfl, V rfl, V rfl, Vj, V rfl, Vj, V rfl, V rfl, V rfl, V rfl, V rfl, V rfl, V rfl, Z⟩
    ·exact ⟨⟨_, rfl, ⟨rfl, rfl, (An rfl)⟩⟩, ⟨_, rfl, ⟨rfl, rfl, (An rfl)⟩⟩, ⟨_, rfl, ⟨rfl, rfl, (An rfl)⟩⟩, ⟨_, rfl, ⟨rfl, rfl, (An rfl)⟩⟩, Z⟩
   ·cases hu5 : e 5
    ·simp only [setE, he, hu3, hu5, cj_t, cj_f, cjn_t, cjn_f, cb_t, cb_f]
     refine U (LBA (V rfl) rfl Ga24 Sz24 (by decide)) <| Nt <| We ?_ ?_
     ·exact ⟨V rfl, V rfl, V rfl, V rfl, V rfl, Vj, V rfl, V rfl, V rfl, V rfl, V rfl, V rfl, V rfl, Z⟩
     ·exact ⟨⟨_, rfl, ⟨rfl, rfl, (An rfl)⟩⟩, ⟨_, rfl, ⟨rfl, rfl, (An rfl)⟩⟩, ⟨_, rfl, ⟨rfl, rfl, (An rfl)⟩⟩, ⟨_, rfl, ⟨rfl, rfl, (An rfl)⟩⟩, ⟨_, rfl, rfl⟩, Z⟩
    ·simp only [setE, he, hu3, hu5, cj_t, cj_f, cjn_t, cjn_f, cb_t, cb_f]
     refine U (LBA (V rfl) rfl Ga24 Sz24 (by decide)) <| Nt <| We ?_ ?_
     ·exact ⟨V rfl, V rfl, V rfl, Vj, V rfl, V rfl, V rfl, V rfl, V rfl, V rfl, V rfl, V rfl, V rfl, Z⟩
     ·exact ⟨⟨_, rfl, ⟨rfl, rfl, (An rfl)⟩⟩, ⟨_, rfl, ⟨rfl, rfl, (An rfl)⟩⟩, ⟨_, rfl, ⟨rfl, rfl, (An rfl)⟩⟩, ⟨_, rfl, ⟨rfl, rfl, (An rfl)⟩⟩, ⟨_, rfl, rfl⟩, Z⟩
  ·intro e hdn he hdp
   have h3 : e 3 = false := fls he fun q => by obtain ⟨r1, -, -⟩ := (show e 1 = true ∧ e 2 = true ∧ True from hdn 3 q); exact r1
   have h5 : e 5 = false := fls he fun q => by obtain ⟨r3, -, -⟩ := (show e 3 = true ∧ e 4 = true ∧ True from hdn 5 q); obtain ⟨r1, -, -⟩ := (show e 1 = true ∧ e 2 = true ∧ True from hdn 3 r3); exact r1
   simp only [setE, he, h3, h5, cj_t, cj_f, cjn_t, cjn_f, cb_t, cb_f]
   refine U (LBA (V rfl) rfl Ga26 Sz26 (by decide)) <| Nt <| We ?_ ?_
   ·exact ⟨V rfl, V rfl, V rfl, Vj, V rfl, Vj, V rfl, V rfl, V rfl, V rfl, V rfl, V rfl, V rfl, Z⟩
   ·exact ⟨⟨_, rfl, ⟨rfl, rfl, (An rfl)⟩⟩, ⟨_, rfl, ⟨rfl, rfl, (An rfl)⟩⟩, ⟨_, rfl, ⟨rfl, rfl, (An rfl)⟩⟩, ⟨_, rfl, ⟨rfl, rfl, (An rfl)⟩⟩, Z⟩
  ·intro e hdn he hdp
   have h3 : e 3 = false := fls he fun q => by obtain ⟨-, r2, -⟩ := (show e 1 = true ∧ e 2 = true ∧ True from hdn 3 q); exact r2
   have h5 : e 5 = false := fls he fun q => by obtain ⟨r3, -, -⟩ := (show e 3 = true ∧ e 4 = true ∧ True from hdn 5 q); obtain ⟨-, r2, -⟩ := (show e 1 = true ∧ e 2 = true ∧ True from hdn 3 r3); exact r2
   simp only [setE, he, h3, h5, cj_t, cj_f, cjn_t, cjn_f, cb_t, cb_f]
   refine U (LBA (V rfl) rfl Ga26 Sz26 (by decide)) <| Nt <| We ?_ ?_
   ·exact ⟨V rfl, V rfl, V rfl, Vj, V rfl, Vj, V rfl, V rfl, V rfl, V rfl, V rfl, V rfl, V rfl, Z⟩
   ·exact ⟨⟨_, rfl, ⟨rfl, rfl, (An rfl)⟩⟩, ⟨_, rfl, ⟨rfl, rfl, (An rfl)⟩⟩, ⟨_, rfl, ⟨rfl, rfl, (An rfl)⟩⟩, ⟨_, rfl, ⟨rfl, rfl, (An rfl)⟩⟩, Z⟩
  ·intro e hdn he hdp
   obtain ⟨h1, h2, -⟩ := (show e 1 = true ∧ e 2 = true ∧ True from hdp)
   have h5 : e 5 = false := fls he fun q => by obtain ⟨r3, -, -⟩ := (show e 3 = true ∧ e 4 = true ∧ True from hdn 5 q); exact r3
   simp only [setE, h1, h2, he, h5, cj_t, cj_f, cjn_t, cjn_f, cb_t, cb_f]
   refine t_bsO 5 (n := 2) (zget := cmpG [iv (0), iv (0)]) [(fun zi => (hdCell p) (0 + zi)), (fun zi => (hdCell c) (0 + zi))] (rowG hdCell default [⟨p.pl, p.use⟩, ⟨c.pl, c.use⟩]) Un80 Sz26 zero26 (by decide) (by decide) rfl (by decide) ⟨⟨rfl, .inl (V rfl), rfl⟩, ⟨rfl, .inl (V rfl), rfl⟩, Z⟩ ⟨⟨Z, ⟨⟨Z, rfl⟩, rfl⟩⟩, ⟨⟨Z, rfl⟩, rfl⟩⟩ (fresh_mk ⟨(noId_cj rfl), rfl, rfl, rfl, (noId_cj rfl), rfl, (noId_cj rfl), (noId_cj rfl), rfl, rfl, rfl, rfl, rfl, Z⟩ rfl rfl) <| Nt <| We ?_ ?_
   ·exact ⟨V rfl, V rfl, V rfl, V rfl, V rfl, Vj, V rfl, V rfl, V rfl, V rfl, V rfl, V rfl, V rfl, Z⟩
   ·exact ⟨⟨_, rfl, ⟨rfl, rfl, (An rfl)⟩⟩, ⟨_, rfl, ⟨rfl, rfl, (An rfl)⟩⟩, ⟨_, rfl, ⟨rfl, rfl, (An rfl)⟩⟩, ⟨_, rfl, ⟨rfl, rfl, (An rfl)⟩⟩, ⟨_, rfl, rfl⟩, Z⟩
  ·intro e hdn he hdp
   have h5 : e 5 = false := fls he fun q => by obtain ⟨-, r4, -⟩ := (show e 3 = true ∧ e 4 = true ∧ True from hdn 5 q); exact r4
   simp only [setE, he, h5, cj_t, cj_f, cjn_t, cjn_f, cb_t, cb_f]
   exact U (Mv (V rfl)) <| Nt <| weakS ⟨V rfl, V rfl, V rfl, V rfl, V rfl, Vj, V rfl, V rfl, V rfl, V rfl, V rfl, V rfl, V rfl, Z⟩
  ·intro e hdn he hdp
   obtain ⟨h3, h4, -⟩ := (show e 3 = true ∧ e 4 = true ∧ True from hdp)
   obtain ⟨h1, h2, -⟩ := (show e 1 = true ∧ e 2 = true ∧ True from hdn 3 h3)
   simp only [setE, h1, h2, h3, h4, he, cj_t, cj_f, cjn_t, cjn_f, cb_t, cb_f]
   refine Ap 6 (rowG hdCell default (([⟨p.pl, p.use⟩, ⟨c.pl, c.use⟩]) ++ ah)) eo80 (V rfl) rfl (V rfl) (fresh_mk ⟨(noId_cj rfl), rfl, rfl, rfl, rfl, rfl, (noId_cj rfl), (noId_cj rfl), rfl, rfl, rfl, rfl, rfl, Z⟩ rfl rfl) (len_app ([⟨p.pl, p.use⟩, ⟨c.pl, c.use⟩]) ah) (by first | (simp only [maxLen, List.length_append, List.length_set, List.length_nil, List.length_cons]; omega) | (simp only [maxLen]; omega)) (by first | (simp only [List.length_append, List.length_set, List.length_nil, List.length_cons]; omega) | (omega)) (app_typed (l := ([⟨p.pl, p.use⟩, ⟨c.pl, c.use⟩])) (m := ah)) <| Nt <| We ?_ ?_
   ·exact ⟨val_kc rfl (V rfl), V rfl, V rfl, Vj, V rfl, V rfl, val_kc rfl (V rfl), val_kc rfl (V rfl), V rfl, V rfl, V rfl, V rfl, V rfl, Z⟩
   ·exact ⟨⟨_, rfl, ⟨rfl, rfl, (An rfl)⟩⟩, ⟨_, rfl, ⟨rfl, rfl, (An rfl)⟩⟩, ⟨_, rfl, ⟨rfl, rfl, (An rfl)⟩⟩, ⟨_, rfl, ⟨rfl, rfl, (An rfl)⟩⟩, ⟨_, rfl, rfl⟩, Z⟩
  ·intro e hdn he hdp
   obtain ⟨h0, h5, -, -⟩ := (show e 0 = true ∧ e 5 = true ∧ e 5 = true ∧ True from hdp)
   obtain ⟨h3, h4, -⟩ := (show e 3 = true ∧ e 4 = true ∧ True from hdn 5 h5)
   obtain ⟨h1, h2, -⟩ := (show e 1 = true ∧ e 2 = true ∧ True from hdn 3 h3)
   simp only [setE, h0, h1, h2, h3, h4, h5, he, cj_t, cj_f, cjn_t, cjn_f, cb_t, cb_f]
   refine CTb en125 (by exact ⟨(vb_ro (Vi (g' := stG l) (V rfl) ⟨Z, Ir⟩) rfl), (vb_own (V rfl) rfl), Z⟩) (both_ct l (([⟨p.pl, p.use⟩, ⟨c.pl, c.use⟩]) ++ ah) (by first | assumption | exact kb_nil | exact kb_of (by assumption))) <| Nt <| We ?_ ?_
   ·exact ⟨V rfl, V rfl, V rfl, Vj, V rfl, V rfl, V rfl, V rfl, V rfl, V rfl, V rfl, V rfl, V rfl, Z⟩
   ·exact ⟨⟨_, rfl, ⟨rfl, rfl, (An rfl)⟩⟩, ⟨_, rfl, ⟨rfl, rfl, (An rfl)⟩⟩, ⟨_, rfl, ⟨rfl, rfl, (An rfl)⟩⟩, ⟨_, rfl, ⟨rfl, rfl, (An rfl)⟩⟩, ⟨_, rfl, rfl⟩, Z⟩
  ·intro e hdn he hdp
   obtain ⟨h6, -, h0, h1, h2, h3, h4, h5, -, -⟩ := (show e 6 = true ∧ e 6 = true ∧ e 0 = true ∧ e 1 = true ∧ e 2 = true ∧ e 3 = true ∧ e 4 = true ∧ e 5 = true ∧ e 6 = true ∧ True from hdp)
   simp only [setE, h0, h1, h2, h3, h4, h5, h6, he, cj_t, cj_f, cjn_t, cjn_f, cb_t, cb_f]
   refine U (As (V rfl)) <| Nt <| We ?_ ?_
   ·exact ⟨V rfl, V rfl, V rfl, Vj, V rfl, V rfl, V rfl, V rfl, V rfl, V rfl, V rfl, V rfl, V rfl, Z⟩
   ·exact ⟨⟨_, rfl, ⟨rfl, rfl, (An rfl)⟩⟩, ⟨_, rfl, ⟨rfl, rfl, (An rfl)⟩⟩, ⟨_, rfl, ⟨rfl, rfl, (An rfl)⟩⟩, ⟨_, rfl, ⟨rfl, rfl, (An rfl)⟩⟩, ⟨_, rfl, rfl⟩, Z⟩
  ·intro e he
   have h0 := he 0 (by decide)
   have h1 := he 1 (by decide)
   have h2 := he 2 (by decide)
   have h3 := he 3 (by decide)
   have h4 := he 4 (by decide)
   have h5 := he 5 (by decide)
   have h6 := he 6 (by decide)
   have h7 := he 7 (by decide)
   show Weak _ ⟨[(18, cj (e 0) (SV.agg 1 (fun zi => (stG l) (0 + zi)))), (19, cj (e 1) (SV.agg 2 (fun zi => (hdCell p) (0 + zi)))), (20, cj (e 2) (SV.agg 2 (fun zi => (hdCell c) (0 + zi)))), (21, cj (e 3) (cjn (e 5) (SV.own 5))), (22, cj (e 4) (hdRow ah)), (23, cj (e 5) (SV.own 6)), (24, cj (e 6) (iv (firstSt l (([⟨p.pl, p.use⟩, ⟨c.pl, c.use⟩]) ++ ah)))), (10, cj (e 7) (iv (firstSt l (([⟨p.pl, p.use⟩, ⟨c.pl, c.use⟩]) ++ ah)))), (3, hdRow ah), (4, SV.bp 1 0), (5, SV.bp 2 0), (6, SV.bp 3 0), (8, SV.bp 4 0)], (cb (e 3) (cb (e 5) [(1, Own.box 1 (stG l) 24), (2, Own.box 2 (hdCell p) 26), (3, Own.box 2 (hdCell c) 26), (4, Own.box 1 (cmpG [SV.v (Value.slice none 0 0)]) 24), (6, ownOf hdCell 2 default (([⟨p.pl, p.use⟩, ⟨c.pl, c.use⟩]) ++ ah) 26)] [(1, Own.box 1 (stG l) 24), (2, Own.box 2 (hdCell p) 26), (3, Own.box 2 (hdCell c) 26), (4, Own.box 1 (cmpG [SV.v (Value.slice none 0 0)]) 24), (5, ownOf hdCell 2 default ([⟨p.pl, p.use⟩, ⟨c.pl, c.use⟩]) 26)]) (cb (e 5) [] [(1, Own.box 1 (stG l) 24), (2, Own.box 2 (hdCell p) 26), (3, Own.box 2 (hdCell c) 26), (4, Own.box 1 (cmpG [SV.v (Value.slice none 0 0)]) 24)]))⟩ _
   simp only [h0, h1, h2, h3, h4, h5, h6, h7]
   show Weak _ ⟨[(18, SV.agg 1 (fun zi => (stG l) (0 + zi))), (19, SV.agg 2 (fun zi => (hdCell p) (0 + zi))), (20, SV.agg 2 (fun zi => (hdCell c) (0 + zi))), (21, SV.junk), (22, hdRow ah), (23, SV.own 6), (24, iv (firstSt l (([⟨p.pl, p.use⟩, ⟨c.pl, c.use⟩]) ++ ah))), (10, iv (firstSt l (([⟨p.pl, p.use⟩, ⟨c.pl, c.use⟩]) ++ ah))), (3, hdRow ah), (4, SV.bp 1 0), (5, SV.bp 2 0), (6, SV.bp 3 0), (8, SV.bp 4 0)], [(1, Own.box 1 (stG l) 24), (2, Own.box 2 (hdCell p) 26), (3, Own.box 2 (hdCell c) 26), (4, Own.box 1 (cmpG [SV.v (Value.slice none 0 0)]) 24), (6, ownOf hdCell 2 default (([⟨p.pl, p.use⟩, ⟨c.pl, c.use⟩]) ++ ah) 26)]⟩ _
   refine We ?_ ?_
   ·exact ⟨Va (V rfl) (An rfl), Va (V rfl) (An rfl), Va (V rfl) (An rfl), V rfl, V rfl, V rfl, V rfl, V rfl, V rfl, V rfl, V rfl, V rfl, Z⟩
   ·exact ⟨⟨_, rfl, ⟨rfl, rfl, (An rfl)⟩⟩, ⟨_, rfl, ⟨rfl, rfl, (An rfl)⟩⟩, ⟨_, rfl, ⟨rfl, rfl, (An rfl)⟩⟩, ⟨_, rfl, ⟨rfl, rfl, (An rfl)⟩⟩, ⟨_, rfl, rfl⟩, Z⟩
  refine Sq <| Rq <| O (Mv (V rfl)) <| O (Qn (V rfl) K) <| Nq <| Cd (V rfl) (fun hc2 => ?_) (fun hc2 => ?_)
  ·have hc2s := hc2; try simp only [BL] at hc2s
   exact Sq <| Rt <| U (Bu [] id (cmpG [SV.v (Value.slice none 0 0)]) zero24 build24 (by exact Z) (by decide) ⟨Z, rfl⟩) <| U (Mv (V rfl)) <| StA (V rfl) rfl (V rfl) Sz24 <| U (As (V rfl)) <| Nt <| Rx <| RR2 rfl (rv_aggI (g' := stG ([])) (rv_cell (V rfl) rfl Ga24 Sz24) ⟨Z, In⟩) (rv_tmp (V rfl)) rfl rfl (by show sv2 (SV.agg 1 (stG ([]))) (iv (firstSt l (([⟨p.pl, p.use⟩, ⟨c.pl, c.use⟩]) ++ ah))) = sv2 (SV.agg 1 (stG (insSt l p c ah).1)) (iv (insSt l p c ah).2); rw [ins_2 (by omega) hc2s])
  ·have hc2s := hc2; try simp only [BL] at hc2s
   have KK := insOk_of (p := p) (c := c) hc2s
   have Kp := KK.pr
   have Kc := KK.cr
   have Ka := KK.ar
   have h24 := checkSt_len KK.ok
   have hc0 := KK.ok
   have hkf : ∀ i, i < l.length → (l.getD i default).kids.length ≤ 24 := fun i hi => kids_few KK.ok hi
   refine Sk <| Sq <| Rqd (by kernel_rfl) (by kernel_rfl) <| O (FlB _ _ (V rfl) Un26 rfl 0 Sz3) <| O (LdB (V rfl) rfl Ga3 (by decide)) <| O (FlB _ _ (V rfl) Un26 rfl 0 Sz3) <| O (LdB (V rfl) rfl Ga3 (by decide)) <| O (As (V rfl)) <| O (As (V rfl)) <| Nq <| Sq <| Sq <| Rq <| O (FlB _ _ (V rfl) Un24 rfl 0 Sz22) <| O (LdB (V rfl) rfl Ga22 (by decide)) <| O (Mv (V rfl)) <| O (Ix (V rfl) (V rfl) ts22 te22 (by omega) (by first | omega | (simp only [List.length_set]; omega))) <| O (Fl _ _ (V rfl) Un61 rfl 0 Sz3) <| O (Ld (V rfl) Ga3 (by decide)) <| O (Ge (V rfl) K) <| O (Mv (V rfl)) <| Og (Gn rfl rfl) (fun hg => LBA (V rfl) rfl Ga24 Sz24 (by decide)) <| Og (Gn rfl rfl) (fun hg => Mv (V rfl)) <| Og (Gn rfl rfl) (fun hg => Mv (V rfl)) <| CQg (Gn rfl rfl) en126 (fun hg => (by exact ⟨⟨(Vi (g' := stG l) (Vg (V rfl) hg) ⟨Z, Ir⟩), rfl⟩, ⟨(Vg (V rfl) hg), rfl⟩, ⟨(Vg (V rfl) hg), rfl⟩, Z⟩)) (fun hg => under_ct l p.pl c.pl (by assumption) (by first | assumption | omega)) <| O (Qr (V rfl) (fun h => Vg (V rfl) (notT h))) <| Nq <| Cd (V rfl) (fun hc3 => ?_) (fun hc3 => ?_)
   ·have hc3s := hc3; try simp only [BL] at hc3s
    exact Sq <| Rt <| U (Bu [] id (cmpG [SV.v (Value.slice none 0 0)]) zero24 build24 (by exact Z) (by decide) ⟨Z, rfl⟩) <| StA (V rfl) rfl (V rfl) Sz24 <| U (As K) <| Nt <| Rx <| RR2 rfl (rv_aggI (g' := stG ([])) (rv_cell (V rfl) rfl Ga24 Sz24) ⟨Z, In⟩) (rv_tmp (V rfl)) rfl rfl (by show sv2 (SV.agg 1 (stG ([]))) (iv (6)) = sv2 (SV.agg 1 (stG (insSt l p c ah).1)) (iv (insSt l p c ah).2); rw [ins_3 (by omega) hc2s hc3])
   ·have hc3s := hc3; try simp only [BL] at hc3s
    have hq3 : insBad l p c = false := hc3
    have hbf := bad_f hq3
    refine Sk <| Sq <| Sq <| Rqd (by kernel_rfl) (by kernel_rfl) <| O (Mv (V rfl)) <| O (Ln (V rfl) ts80) <| O (Gt (V rfl) K) <| O (Mv (V rfl)) <| Og (Gy rfl rfl) (fun hg => FlB _ _ (V rfl) Un24 rfl 0 Sz22) <| Og (Gy rfl rfl) (fun hg => LdB (Vg (V rfl) hg) rfl Ga22 (by decide)) <| Og (Gy rfl rfl) (fun hg => Mv (V rfl)) <| Og (Gy rfl rfl) (fun hg => Ix (Vg (V rfl) hg) K ts80 te80 (by omega) (by have hq := hg; simp only [BL] at hq; omega)) <| Og (Gy rfl rfl) (fun hg => Fl _ _ (Vg (V rfl) hg) Un26 rfl 0 Sz3) <| Og (Gy rfl rfl) (fun hg => Ld (Vg (V rfl) hg) Ga3 (by decide)) <| Og (Gy rfl rfl) (fun hg => Ix (Vg (V rfl) hg) (Vg (V rfl) hg) ts22 te22 (by have hq := hg; simp only [BL] at hq; have hka : 0 ≤ (ah.getD (Int.toNat 0) default).pl ∧ (ah.getD (Int.toNat 0) default).pl < (l.length : Int) := Ka (by omega); omega) (by have hq := hg; simp only [BL] at hq; have hka : 0 ≤ (ah.getD (Int.toNat 0) default).pl ∧ (ah.getD (Int.toNat 0) default).pl < (l.length : Int) := Ka (by omega); omega)) <| Og (Gy rfl rfl) (fun hg => Fl _ _ (Vg (V rfl) hg) Un61 rfl 0 Sz3) <| Og (Gy rfl rfl) (fun hg => Ld (Vg (V rfl) hg) Ga3 (by decide)) <| Og (Gy rfl rfl) (fun hg => Mv (V rfl)) <| Og (Gy rfl rfl) (fun hg => Qn (Vg (V rfl) hg) (Vg (V rfl) hg)) <| O (Qa (V rfl) (fun h => Vg (V rfl) h)) <| Nq <| Cd (V rfl) (fun hc4 => ?_) (fun hc4 => ?_)
    ·have hc4s := hc4; try simp only [BL] at hc4s
     exact Sq <| Rt <| U (Bu [] id (cmpG [SV.v (Value.slice none 0 0)]) zero24 build24 (by exact Z) (by decide) ⟨Z, rfl⟩) <| StA (V rfl) rfl (V rfl) Sz24 <| U (As K) <| Nt <| Rx <| RR2 rfl (rv_aggI (g' := stG ([])) (rv_cell (V rfl) rfl Ga24 Sz24) ⟨Z, In⟩) (rv_tmp (V rfl)) rfl rfl (by show sv2 (SV.agg 1 (stG ([]))) (iv (6)) = sv2 (SV.agg 1 (stG (insSt l p c ah).1)) (iv (insSt l p c ah).2); rw [ins_4 (by omega) hc2s hq3 ⟨by omega, hc4s.2⟩])
    ·have hc4s := hc4; try simp only [BL] at hc4s
     have hq4 : ¬ (0 < ah.length ∧ (l.getD (hd0 ah).pl.toNat default).par ≠ p.pl) := fun q => by rw [show hd0 ah = ah.getD 0 default from rfl] at q; rcases hc4s with e | e; exact e (by omega); exact q.2 e
     refine Sk <| Sq <| Sq <| Rq <| O (Mv (V rfl)) <| O (Ln (V rfl) ts80) <| O (Gt (V rfl) K) <| O (Mv (V rfl)) <| Og (Gy rfl rfl) (fun hg => Mv (V rfl)) <| Og (Gy rfl rfl) (fun hg => Ix (Vg (V rfl) hg) K ts80 te80 (by omega) (by have hq := hg; simp only [BL] at hq; omega)) <| Og (Gy rfl rfl) (fun hg => Fl _ _ (Vg (V rfl) hg) Un26 rfl 0 Sz3) <| Og (Gy rfl rfl) (fun hg => Ld (Vg (V rfl) hg) Ga3 (by decide)) <| Og (Gy rfl rfl) (fun hg => Mv (V rfl)) <| Og (Gy rfl rfl) (fun hg => Ql (Vg (V rfl) hg) (Vg (V rfl) hg)) <| O (Qa (V rfl) (fun h => Vg (V rfl) h)) <| Nq <| Cd (V rfl) (fun hc5 => ?_) (fun hc5 => ?_)
     ·have hc5s := hc5; try simp only [BL] at hc5s
      exact Sq <| Rt <| U (LBA (V rfl) rfl Ga24 Sz24 (by decide)) <| CM (cargs := [SV.agg 1 (stG l)]) [] [(0, 7)] en115 (mv0 (by exact ⟨⟨(Vi (g' := stG l) (V rfl) ⟨Z, Ir⟩), rfl⟩, Z⟩)) (copyU_ct l (by omega) (by assumption)) (by exact Z) rfl rfl rfl rfl <| StA (V rfl) rfl (V rfl) Sz24 <| U (As K) <| Nt <| Tc (turn_uAT 7 rfl rfl (fun _ => rfl)) <| FzC 7 rfl <| Rx <| RR2 rfl (rv_aggI (g' := stG l) (rv_cell (V rfl) rfl Ga24 Sz24) ⟨Z, Ir⟩) (rv_tmp (V rfl)) rfl rfl (by show sv2 (SV.agg 1 (stG l)) (iv (0)) = sv2 (SV.agg 1 (stG (insSt l p c ah).1)) (iv (insSt l p c ah).2); rw [ins_5 (by omega) hc2s hq3 hq4 ⟨by omega, hc5s.2⟩])
     ·have hc5s := hc5; try simp only [BL] at hc5s
      have hq5 : ¬ (0 < ah.length ∧ (hd0 ah).pl = c.pl) := fun q => by rcases hc5s with e | e; exact e (by omega); exact e q.2
      have hol := out_len l c.pl
      have hko := kids_few (out_ok KK) (i := Int.toNat p.pl) (by omega)
      refine Sk <| Sq <| Rt <| U (LBA (V rfl) rfl Ga24 Sz24 (by decide)) <| CM (cargs := [SV.agg 1 (stG l)]) [] [(0, 8)] en115 (mv0 (by exact ⟨⟨(Vi (g' := stG l) (V rfl) ⟨Z, Ir⟩), rfl⟩, Z⟩)) (copyU_ct l (by omega) (by assumption)) (by exact Z) rfl rfl rfl rfl <| StA (V rfl) rfl (V rfl) Sz24 <| Nt <| Sq <| Rt <| U (Mv (V rfl)) <| CM (cargs := [SV.bp 1000 0, iv (c.pl)]) [(1000, 1), (1001, 8)] [(0, 9)] en127 (by exact ⟨(V rfl), (V rfl), Z⟩) (out_ct l c.pl (by assumption) (by assumption)) (by exact ⟨⟨_, rfl, ⟨rfl, rfl, (An rfl)⟩⟩, ⟨_, rfl, rfl⟩, Z⟩) rfl rfl rfl rfl <| Nt <| Sq <| Tc (turn_splitT 9 (Int.toNat p.pl) 10 rfl (by omega) rfl rfl) <| Rq <| O (FlB _ _ (V rfl) Un24 rfl 0 Sz22) <| O (LdB (V rfl) rfl Ga22 (by decide)) <| O (Mv (V rfl)) <| O (q_idxU (V rfl) rfl (V rfl) ts22 te22 (by omega) (by first | omega | (simp only [List.length_set]; omega))) <| O (FlO _ _ (V rfl) Un61 rfl 0 Sz33) <| O (LdU (V rfl) rfl Ga33 (by decide) uat_hole) <| O (LnO (V rfl) rfl ts33) <| O (As (V rfl)) <| Nq <| Sq <| Sq <| Rq <| O (Mv (V rfl)) <| O (Ln (V rfl) ts80) <| O (Gt (V rfl) K) <| Nq <| Cd (V rfl) (fun hc6 => ?_) (fun hc6 => ?_)
      ·have hc6s := hc6; try simp only [BL] at hc6s
       have hah : 0 < ah.length := by omega
       have hpos := pos_le KK hq4 hq5 hah
       have hposA : 0 ≤ idxI ((outSt l c.pl).getD (Int.toNat p.pl) default).kids (ah.getD 0 default).pl ∧ idxI ((outSt l c.pl).getD (Int.toNat p.pl) default).kids (ah.getD 0 default).pl < (((outSt l c.pl).getD (Int.toNat p.pl) default).kids.length : Int) := hpos
       have hpos : 0 ≤ idxI ((outSt l c.pl).getD (Int.toNat p.pl) default).kids (ah.getD (Int.toNat 0) default).pl ∧ idxI ((outSt l c.pl).getD (Int.toNat p.pl) default).kids (ah.getD (Int.toNat 0) default).pl < (((outSt l c.pl).getD (Int.toNat p.pl) default).kids.length : Int) := hpos
       refine Rqd (by kernel_rfl) (by kernel_rfl) <| O (FlB _ _ (V rfl) Un24 rfl 0 Sz22) <| O (LdB (V rfl) rfl Ga22 (by decide)) <| O (Mv (V rfl)) <| O (q_idxU (V rfl) rfl (V rfl) ts22 te22 (by omega) (by first | omega | (simp only [List.length_set]; omega))) <| O (FlO _ _ (V rfl) Un61 rfl 0 Sz33) <| O (LdU (V rfl) rfl Ga33 (by decide) uat_hole) <| O (Mv (V rfl)) <| O (Ix (V rfl) K ts80 te80 (by omega) (by first | omega | (simp only [List.length_set]; omega))) <| O (Fl _ _ (V rfl) Un26 rfl 0 Sz3) <| O (Ld (V rfl) Ga3 (by decide)) <| CQb en62 (by exact ⟨(vb_own (V rfl) rfl), (vb_ro (V rfl) rfl), Z⟩) (index_ct (Nd.kids ((outSt l c.pl).getD (Int.toNat p.pl) default)) ((ah.getD 0 default).pl)) <| O (As (V rfl)) <| Nq <| Sq <| c_rd (fun e => ⟨[(102, cj (e 0) (SV.bp 1 0)), (103, cj (e 1) (SV.own 9)), (104, cj (e 2) (iv (p.pl))), (105, cj (e 3) (SV.bp 1 0)), (106, cj (e 4) (SV.own 9)), (107, cj (e 5) (iv (p.pl))), (108, cj (e 6) (SV.oe 9 8 (Int.toNat p.pl) 0)), (109, cj (e 7) (SV.oe 9 8 (Int.toNat p.pl) 5)), (110, cj (e 8) (SV.own 10)), (111, cj (e 9) (iv (idxI (Nd.kids ((outSt l c.pl).getD (Int.toNat p.pl) default)) ((ah.getD 0 default).pl)))), (112, cj (e 10) (iv (c.pl))), (113, cj (e 11) (inRow ([c.pl]))), (114, cj (e 12) (SV.own 11)), (115, cj (e 13) (SV.oe 9 8 (Int.toNat p.pl) 0)), (116, cj (e 14) (SV.oe 9 8 (Int.toNat p.pl) 5)), (4, SV.bp 1 0), (8, SV.bp 4 0), (11, iv (p.pl)), (12, iv (c.pl)), (13, iv (idxI (Nd.kids ((outSt l c.pl).getD (Int.toNat p.pl) default)) ((ah.getD 0 default).pl)))], (cb (e 12) (cb (e 15) [(1, Own.box 1 (fun zt => SV.renm (rn [(1000, 1), (1001, 8), (0, 9)]) ((cmpG [SV.own 0]) zt)) 24), (4, Own.box 1 (cmpG [SV.v (Value.slice none 0 0)]) 24), (9, urowOf ndCell 8 default (outSt l c.pl) 61 5 Nd.kids inCell 1 0 3 l.length (some (Int.toNat p.pl, SV.own 11))), (11, ownOf inCell 1 0 ((Nd.kids ((outSt l c.pl).getD (Int.toNat p.pl) default)).take (Int.toNat (idxI (Nd.kids ((outSt l c.pl).getD (Int.toNat p.pl) default)) ((ah.getD 0 default).pl))) ++ ([c.pl]) ++ (Nd.kids ((outSt l c.pl).getD (Int.toNat p.pl) default)).drop (Int.toNat (idxI (Nd.kids ((outSt l c.pl).getD (Int.toNat p.pl) default)) ((ah.getD 0 default).pl)))) 3)] [(1, Own.box 1 (fun zt => SV.renm (rn [(1000, 1), (1001, 8), (0, 9)]) ((cmpG [SV.own 0]) zt)) 24), (4, Own.box 1 (cmpG [SV.v (Value.slice none 0 0)]) 24), (9, urowOf ndCell 8 default (outSt l c.pl) 61 5 Nd.kids inCell 1 0 3 l.length (some (Int.toNat p.pl, SV.own 10))), (11, ownOf inCell 1 0 ((Nd.kids ((outSt l c.pl).getD (Int.toNat p.pl) default)).take (Int.toNat (idxI (Nd.kids ((outSt l c.pl).getD (Int.toNat p.pl) default)) ((ah.getD 0 default).pl))) ++ ([c.pl]) ++ (Nd.kids ((outSt l c.pl).getD (Int.toNat p.pl) default)).drop (Int.toNat (idxI (Nd.kids ((outSt l c.pl).getD (Int.toNat p.pl) default)) ((ah.getD 0 default).pl)))) 3)]) (cb (e 15) [] [(1, Own.box 1 (fun zt => SV.renm (rn [(1000, 1), (1001, 8), (0, 9)]) ((cmpG [SV.own 0]) zt)) 24), (4, Own.box 1 (cmpG [SV.v (Value.slice none 0 0)]) 24), (9, urowOf ndCell 8 default (outSt l c.pl) 61 5 Nd.kids inCell 1 0 3 l.length (some (Int.toNat p.pl, SV.own 10))), (10, ownOf inCell 1 0 (Nd.kids ((outSt l c.pl).getD (Int.toNat p.pl) default)) 3)]))⟩) ⟨[(102, SV.bp 1 0), (103, SV.own 9), (104, iv (p.pl)), (105, SV.bp 1 0), (106, SV.own 9), (107, iv (p.pl)), (108, SV.oe 9 8 (Int.toNat p.pl) 0), (109, SV.oe 9 8 (Int.toNat p.pl) 5), (110, SV.own 10), (111, iv (idxI (Nd.kids ((outSt l c.pl).getD (Int.toNat p.pl) default)) ((ah.getD 0 default).pl))), (112, iv (c.pl)), (113, inRow ([c.pl])), (114, SV.own 11), (115, SV.oe 9 8 (Int.toNat p.pl) 0), (116, SV.oe 9 8 (Int.toNat p.pl) 5), (4, SV.bp 1 0), (8, SV.bp 4 0), (11, iv (p.pl)), (12, iv (c.pl)), (13, iv (idxI (Nd.kids ((outSt l c.pl).getD (Int.toNat p.pl) default)) ((ah.getD 0 default).pl)))], [(1, Own.box 1 (fun zt => SV.renm (rn [(1000, 1), (1001, 8), (0, 9)]) ((cmpG [SV.own 0]) zt)) 24), (4, Own.box 1 (cmpG [SV.v (Value.slice none 0 0)]) 24), (9, urowOf ndCell 8 default (outSt l c.pl) 61 5 Nd.kids inCell 1 0 3 l.length (some (Int.toNat p.pl, SV.own 11))), (11, ownOf inCell 1 0 ((Nd.kids ((outSt l c.pl).getD (Int.toNat p.pl) default)).take (Int.toNat (idxI (Nd.kids ((outSt l c.pl).getD (Int.toNat p.pl) default)) ((ah.getD 0 default).pl))) ++ ([c.pl]) ++ (Nd.kids ((outSt l c.pl).getD (Int.toNat p.pl) default)).drop (Int.toNat (idxI (Nd.kids ((outSt l c.pl).getD (Int.toNat p.pl) default)) ((ah.getD 0 default).pl)))) 3)]⟩ (by kernel_rfl) (by kernel_rfl) ?_ ⟨?_, ?_, ?_, ?_, ?_, ?_, ?_, ?_, ?_, ?_, ?_, ?_, ?_, ?_, ?_, ?_, Z⟩ ?_ ?_
       ·show Weak _ _ ⟨[(102, SV.junk), (103, SV.junk), (104, SV.junk), (105, SV.junk), (106, SV.junk), (107, SV.junk), (108, SV.junk), (109, SV.junk), (110, SV.junk), (111, SV.junk), (112, SV.junk), (113, SV.junk), (114, SV.junk), (115, SV.junk), (116, SV.junk), (4, SV.bp 1 0), (8, SV.bp 4 0), (11, iv (p.pl)), (12, iv (c.pl)), (13, iv (idxI (Nd.kids ((outSt l c.pl).getD (Int.toNat p.pl) default)) ((ah.getD 0 default).pl)))], [(1, Own.box 1 (fun zt => SV.renm (rn [(1000, 1), (1001, 8), (0, 9)]) ((cmpG [SV.own 0]) zt)) 24), (4, Own.box 1 (cmpG [SV.v (Value.slice none 0 0)]) 24), (9, urowOf ndCell 8 default (outSt l c.pl) 61 5 Nd.kids inCell 1 0 3 l.length (some (Int.toNat p.pl, SV.own 10))), (10, ownOf inCell 1 0 (Nd.kids ((outSt l c.pl).getD (Int.toNat p.pl) default)) 3)]⟩
        refine We ?_ ?_
        ·exact ⟨Vj, Vj, Vj, Vj, Vj, Vj, Vj, Vj, Vj, Vj, Vj, Vj, Vj, Vj, Vj, V rfl, V rfl, V rfl, V rfl, V rfl, Z⟩
        ·exact ⟨⟨_, rfl, ⟨rfl, rfl, (An rfl)⟩⟩, ⟨_, rfl, ⟨rfl, rfl, (An rfl)⟩⟩, ⟨_, rfl, rfl⟩, ⟨_, rfl, rfl⟩, Z⟩
       ·intro e hdn he hdp
        have h15 : e 15 = false := fls he fun q => by obtain ⟨r14, -, -, -, -, -, -, -, -, -, -, -, -, -, -, -, -⟩ := (show e 14 = true ∧ e 12 = true ∧ e 12 = true ∧ e 0 = true ∧ e 1 = true ∧ e 2 = true ∧ e 3 = true ∧ e 4 = true ∧ e 5 = true ∧ e 6 = true ∧ e 7 = true ∧ e 8 = true ∧ e 9 = true ∧ e 10 = true ∧ e 11 = true ∧ e 12 = true ∧ True from hdn 15 q); obtain ⟨r13, -, -, -, -, -, -, -, -, -, -, -, -, -, -⟩ := (show e 13 = true ∧ e 0 = true ∧ e 1 = true ∧ e 2 = true ∧ e 3 = true ∧ e 4 = true ∧ e 5 = true ∧ e 6 = true ∧ e 7 = true ∧ e 8 = true ∧ e 9 = true ∧ e 10 = true ∧ e 11 = true ∧ e 12 = true ∧ True from hdn 14 r14); obtain ⟨r1, -, -, -, -, -, -, -, -, -, -, -, -, -, -, -⟩ := (show e 1 = true ∧ e 2 = true ∧ e 0 = true ∧ e 1 = true ∧ e 2 = true ∧ e 3 = true ∧ e 4 = true ∧ e 5 = true ∧ e 6 = true ∧ e 7 = true ∧ e 8 = true ∧ e 9 = true ∧ e 10 = true ∧ e 11 = true ∧ e 12 = true ∧ True from hdn 13 r13); obtain ⟨r0, -⟩ := (show e 0 = true ∧ True from hdn 1 r1); exact r0
        simp only [setE, he, h15, cj_t, cj_f, cjn_t, cjn_f, cb_t, cb_f]
        exact U (FlB _ _ (V rfl) Un24 rfl 0 Sz22) <| Nt <| weakS ⟨V rfl, V rfl, V rfl, V rfl, V rfl, V rfl, V rfl, V rfl, V rfl, V rfl, V rfl, V rfl, V rfl, V rfl, V rfl, V rfl, V rfl, V rfl, V rfl, V rfl, Z⟩
       ·intro e hdn he hdp
        obtain ⟨h0, -⟩ := (show e 0 = true ∧ True from hdp)
        have h15 : e 15 = false := fls he fun q => by obtain ⟨r14, -, -, -, -, -, -, -, -, -, -, -, -, -, -, -, -⟩ := (show e 14 = true ∧ e 12 = true ∧ e 12 = true ∧ e 0 = true ∧ e 1 = true ∧ e 2 = true ∧ e 3 = true ∧ e 4 = true ∧ e 5 = true ∧ e 6 = true ∧ e 7 = true ∧ e 8 = true ∧ e 9 = true ∧ e 10 = true ∧ e 11 = true ∧ e 12 = true ∧ True from hdn 15 q); obtain ⟨r13, -, -, -, -, -, -, -, -, -, -, -, -, -, -⟩ := (show e 13 = true ∧ e 0 = true ∧ e 1 = true ∧ e 2 = true ∧ e 3 = true ∧ e 4 = true ∧ e 5 = true ∧ e 6 = true ∧ e 7 = true ∧ e 8 = true ∧ e 9 = true ∧ e 10 = true ∧ e 11 = true ∧ e 12 = true ∧ True from hdn 14 r14); obtain ⟨r1, -, -, -, -, -, -, -, -, -, -, -, -, -, -, -⟩ := (show e 1 = true ∧ e 2 = true ∧ e 0 = true ∧ e 1 = true ∧ e 2 = true ∧ e 3 = true ∧ e 4 = true ∧ e 5 = true ∧ e 6 = true ∧ e 7 = true ∧ e 8 = true ∧ e 9 = true ∧ e 10 = true ∧ e 11 = true ∧ e 12 = true ∧ True from hdn 13 r13); exact r1
        cases hu12 : e 12
        ·simp only [setE, h0, he, h15, hu12, cj_t, cj_f, cjn_t, cjn_f, cb_t, cb_f]
         refine U (LdB (V rfl) rfl Ga22 (by decide)) <| Nt <| We ?_ ?_
         ·exact ⟨V rfl, V rfl, V rfl, V rfl, V rfl, V rfl, V rfl, V rfl, V rfl, V rfl, V rfl, V rfl, Vj, V rfl, V rfl, V rfl, V rfl, V rfl, V rfl, V rfl, Z⟩
         ·exact ⟨⟨_, rfl, ⟨rfl, rfl, (An rfl)⟩⟩, ⟨_, rfl, ⟨rfl, rfl, (An rfl)⟩⟩, ⟨_, rfl, rfl⟩, ⟨_, rfl, rfl⟩, Z⟩
        ·simp only [setE, h0, he, h15, hu12, cj_t, cj_f, cjn_t, cjn_f, cb_t, cb_f]
         refine U (LdB (V rfl) rfl Ga22 (by decide)) <| Nt <| We ?_ ?_
         ·exact ⟨V rfl, V rfl, V rfl, V rfl, V rfl, V rfl, V rfl, V rfl, V rfl, V rfl, V rfl, V rfl, V rfl, V rfl, V rfl, V rfl, V rfl, V rfl, V rfl, V rfl, Z⟩
         ·exact ⟨⟨_, rfl, ⟨rfl, rfl, (An rfl)⟩⟩, ⟨_, rfl, ⟨rfl, rfl, (An rfl)⟩⟩, ⟨_, rfl, rfl⟩, ⟨_, rfl, rfl⟩, Z⟩
       ·intro e hdn he hdp
        have h15 : e 15 = false := fls he fun q => by obtain ⟨r14, -, -, -, -, -, -, -, -, -, -, -, -, -, -, -, -⟩ := (show e 14 = true ∧ e 12 = true ∧ e 12 = true ∧ e 0 = true ∧ e 1 = true ∧ e 2 = true ∧ e 3 = true ∧ e 4 = true ∧ e 5 = true ∧ e 6 = true ∧ e 7 = true ∧ e 8 = true ∧ e 9 = true ∧ e 10 = true ∧ e 11 = true ∧ e 12 = true ∧ True from hdn 15 q); obtain ⟨r13, -, -, -, -, -, -, -, -, -, -, -, -, -, -⟩ := (show e 13 = true ∧ e 0 = true ∧ e 1 = true ∧ e 2 = true ∧ e 3 = true ∧ e 4 = true ∧ e 5 = true ∧ e 6 = true ∧ e 7 = true ∧ e 8 = true ∧ e 9 = true ∧ e 10 = true ∧ e 11 = true ∧ e 12 = true ∧ True from hdn 14 r14); obtain ⟨-, r2, -, -, -, -, -, -, -, -, -, -, -, -, -, -⟩ := (show e 1 = true ∧ e 2 = true ∧ e 0 = true ∧ e 1 = true ∧ e 2 = true ∧ e 3 = true ∧ e 4 = true ∧ e 5 = true ∧ e 6 = true ∧ e 7 = true ∧ e 8 = true ∧ e 9 = true ∧ e 10 = true ∧ e 11 = true ∧ e 12 = true ∧ True from hdn 13 r13); exact r2
        simp only [setE, he, h15, cj_t, cj_f, cjn_t, cjn_f, cb_t, cb_f]
        exact U (Mv (V rfl)) <| Nt <| weakS ⟨V rfl, V rfl, V rfl, V rfl, V rfl, V rfl, V rfl, V rfl, V rfl, V rfl, V rfl, V rfl, V rfl, V rfl, V rfl, V rfl, V rfl, V rfl, V rfl, V rfl, Z⟩
       ·intro e hdn he hdp
        have h12 : e 12 = false := fls he fun q => by obtain ⟨r8, -, -, -⟩ := (show e 8 = true ∧ e 9 = true ∧ e 11 = true ∧ True from hdn 12 q); obtain ⟨r7, -⟩ := (show e 7 = true ∧ True from hdn 8 r8); obtain ⟨r6, -⟩ := (show e 6 = true ∧ True from hdn 7 r7); obtain ⟨r4, -, -⟩ := (show e 4 = true ∧ e 5 = true ∧ True from hdn 6 r6); obtain ⟨r3, -⟩ := (show e 3 = true ∧ True from hdn 4 r4); exact r3
        have h15 : e 15 = false := fls he fun q => by obtain ⟨r14, -, -, -, -, -, -, -, -, -, -, -, -, -, -, -, -⟩ := (show e 14 = true ∧ e 12 = true ∧ e 12 = true ∧ e 0 = true ∧ e 1 = true ∧ e 2 = true ∧ e 3 = true ∧ e 4 = true ∧ e 5 = true ∧ e 6 = true ∧ e 7 = true ∧ e 8 = true ∧ e 9 = true ∧ e 10 = true ∧ e 11 = true ∧ e 12 = true ∧ True from hdn 15 q); obtain ⟨r13, -, -, -, -, -, -, -, -, -, -, -, -, -, -⟩ := (show e 13 = true ∧ e 0 = true ∧ e 1 = true ∧ e 2 = true ∧ e 3 = true ∧ e 4 = true ∧ e 5 = true ∧ e 6 = true ∧ e 7 = true ∧ e 8 = true ∧ e 9 = true ∧ e 10 = true ∧ e 11 = true ∧ e 12 = true ∧ True from hdn 14 r14); obtain ⟨-, -, -, -, -, -, -, -, -, -, -, -, -, -, r12, -⟩ := (show e 1 = true ∧ e 2 = true ∧ e 0 = true ∧ e 1 = true ∧ e 2 = true ∧ e 3 = true ∧ e 4 = true ∧ e 5 = true ∧ e 6 = true ∧ e 7 = true ∧ e 8 = true ∧ e 9 = true ∧ e 10 = true ∧ e 11 = true ∧ e 12 = true ∧ True from hdn 13 r13); obtain ⟨r8, -, -, -⟩ := (show e 8 = true ∧ e 9 = true ∧ e 11 = true ∧ True from hdn 12 r12); obtain ⟨r7, -⟩ := (show e 7 = true ∧ True from hdn 8 r8); obtain ⟨r6, -⟩ := (show e 6 = true ∧ True from hdn 7 r7); obtain ⟨r4, -, -⟩ := (show e 4 = true ∧ e 5 = true ∧ True from hdn 6 r6); obtain ⟨r3, -⟩ := (show e 3 = true ∧ True from hdn 4 r4); exact r3
        simp only [setE, he, h12, h15, cj_t, cj_f, cjn_t, cjn_f, cb_t, cb_f]
        refine U (FlB _ _ (V rfl) Un24 rfl 0 Sz22) <| Nt <| We ?_ ?_
        ·exact ⟨V rfl, V rfl, V rfl, V rfl, V rfl, V rfl, V rfl, V rfl, V rfl, V rfl, V rfl, V rfl, Vj, V rfl, V rfl, V rfl, V rfl, V rfl, V rfl, V rfl, Z⟩
        ·exact ⟨⟨_, rfl, ⟨rfl, rfl, (An rfl)⟩⟩, ⟨_, rfl, ⟨rfl, rfl, (An rfl)⟩⟩, ⟨_, rfl, rfl⟩, ⟨_, rfl, rfl⟩, Z⟩
       ·intro e hdn he hdp
        obtain ⟨h3, -⟩ := (show e 3 = true ∧ True from hdp)
        have h12 : e 12 = false := fls he fun q => by obtain ⟨r8, -, -, -⟩ := (show e 8 = true ∧ e 9 = true ∧ e 11 = true ∧ True from hdn 12 q); obtain ⟨r7, -⟩ := (show e 7 = true ∧ True from hdn 8 r8); obtain ⟨r6, -⟩ := (show e 6 = true ∧ True from hdn 7 r7); obtain ⟨r4, -, -⟩ := (show e 4 = true ∧ e 5 = true ∧ True from hdn 6 r6); exact r4
        have h15 : e 15 = false := fls he fun q => by obtain ⟨r14, -, -, -, -, -, -, -, -, -, -, -, -, -, -, -, -⟩ := (show e 14 = true ∧ e 12 = true ∧ e 12 = true ∧ e 0 = true ∧ e 1 = true ∧ e 2 = true ∧ e 3 = true ∧ e 4 = true ∧ e 5 = true ∧ e 6 = true ∧ e 7 = true ∧ e 8 = true ∧ e 9 = true ∧ e 10 = true ∧ e 11 = true ∧ e 12 = true ∧ True from hdn 15 q); obtain ⟨r13, -, -, -, -, -, -, -, -, -, -, -, -, -, -⟩ := (show e 13 = true ∧ e 0 = true ∧ e 1 = true ∧ e 2 = true ∧ e 3 = true ∧ e 4 = true ∧ e 5 = true ∧ e 6 = true ∧ e 7 = true ∧ e 8 = true ∧ e 9 = true ∧ e 10 = true ∧ e 11 = true ∧ e 12 = true ∧ True from hdn 14 r14); obtain ⟨-, -, -, -, -, -, -, -, -, -, -, -, -, -, r12, -⟩ := (show e 1 = true ∧ e 2 = true ∧ e 0 = true ∧ e 1 = true ∧ e 2 = true ∧ e 3 = true ∧ e 4 = true ∧ e 5 = true ∧ e 6 = true ∧ e 7 = true ∧ e 8 = true ∧ e 9 = true ∧ e 10 = true ∧ e 11 = true ∧ e 12 = true ∧ True from hdn 13 r13); obtain ⟨r8, -, -, -⟩ := (show e 8 = true ∧ e 9 = true ∧ e 11 = true ∧ True from hdn 12 r12); obtain ⟨r7, -⟩ := (show e 7 = true ∧ True from hdn 8 r8); obtain ⟨r6, -⟩ := (show e 6 = true ∧ True from hdn 7 r7); obtain ⟨r4, -, -⟩ := (show e 4 = true ∧ e 5 = true ∧ True from hdn 6 r6); exact r4
        simp only [setE, h3, he, h12, h15, cj_t, cj_f, cjn_t, cjn_f, cb_t, cb_f]
        refine U (LdB (V rfl) rfl Ga22 (by decide)) <| Nt <| We ?_ ?_
        ·exact ⟨V rfl, V rfl, V rfl, V rfl, V rfl, V rfl, V rfl, V rfl, V rfl, V rfl, V rfl, V rfl, Vj, V rfl, V rfl, V rfl, V rfl, V rfl, V rfl, V rfl, Z⟩
        ·exact ⟨⟨_, rfl, ⟨rfl, rfl, (An rfl)⟩⟩, ⟨_, rfl, ⟨rfl, rfl, (An rfl)⟩⟩, ⟨_, rfl, rfl⟩, ⟨_, rfl, rfl⟩, Z⟩
       ·intro e hdn he hdp
        have h12 : e 12 = false := fls he fun q => by obtain ⟨r8, -, -, -⟩ := (show e 8 = true ∧ e 9 = true ∧ e 11 = true ∧ True from hdn 12 q); obtain ⟨r7, -⟩ := (show e 7 = true ∧ True from hdn 8 r8); obtain ⟨r6, -⟩ := (show e 6 = true ∧ True from hdn 7 r7); obtain ⟨-, r5, -⟩ := (show e 4 = true ∧ e 5 = true ∧ True from hdn 6 r6); exact r5
        have h15 : e 15 = false := fls he fun q => by obtain ⟨r14, -, -, -, -, -, -, -, -, -, -, -, -, -, -, -, -⟩ := (show e 14 = true ∧ e 12 = true ∧ e 12 = true ∧ e 0 = true ∧ e 1 = true ∧ e 2 = true ∧ e 3 = true ∧ e 4 = true ∧ e 5 = true ∧ e 6 = true ∧ e 7 = true ∧ e 8 = true ∧ e 9 = true ∧ e 10 = true ∧ e 11 = true ∧ e 12 = true ∧ True from hdn 15 q); obtain ⟨r13, -, -, -, -, -, -, -, -, -, -, -, -, -, -⟩ := (show e 13 = true ∧ e 0 = true ∧ e 1 = true ∧ e 2 = true ∧ e 3 = true ∧ e 4 = true ∧ e 5 = true ∧ e 6 = true ∧ e 7 = true ∧ e 8 = true ∧ e 9 = true ∧ e 10 = true ∧ e 11 = true ∧ e 12 = true ∧ True from hdn 14 r14); obtain ⟨-, -, -, -, -, -, -, -, -, -, -, -, -, -, r12, -⟩ := (show e 1 = true ∧ e 2 = true ∧ e 0 = true ∧ e 1 = true ∧ e 2 = true ∧ e 3 = true ∧ e 4 = true ∧ e 5 = true ∧ e 6 = true ∧ e 7 = true ∧ e 8 = true ∧ e 9 = true ∧ e 10 = true ∧ e 11 = true ∧ e 12 = true ∧ True from hdn 13 r13); obtain ⟨r8, -, -, -⟩ := (show e 8 = true ∧ e 9 = true ∧ e 11 = true ∧ True from hdn 12 r12); obtain ⟨r7, -⟩ := (show e 7 = true ∧ True from hdn 8 r8); obtain ⟨r6, -⟩ := (show e 6 = true ∧ True from hdn 7 r7); obtain ⟨-, r5, -⟩ := (show e 4 = true ∧ e 5 = true ∧ True from hdn 6 r6); exact r5
        simp only [setE, he, h12, h15, cj_t, cj_f, cjn_t, cjn_f, cb_t, cb_f]
        refine U (Mv (V rfl)) <| Nt <| We ?_ ?_
        ·exact ⟨V rfl, V rfl, V rfl, V rfl, V rfl, V rfl, V rfl, V rfl, V rfl, V rfl, V rfl, V rfl, Vj, V rfl, V rfl, V rfl, V rfl, V rfl, V rfl, V rfl, Z⟩
        ·exact ⟨⟨_, rfl, ⟨rfl, rfl, (An rfl)⟩⟩, ⟨_, rfl, ⟨rfl, rfl, (An rfl)⟩⟩, ⟨_, rfl, rfl⟩, ⟨_, rfl, rfl⟩, Z⟩
       ·intro e hdn he hdp
        obtain ⟨h4, h5, -⟩ := (show e 4 = true ∧ e 5 = true ∧ True from hdp)
        obtain ⟨h3, -⟩ := (show e 3 = true ∧ True from hdn 4 h4)
        have h12 : e 12 = false := fls he fun q => by obtain ⟨r8, -, -, -⟩ := (show e 8 = true ∧ e 9 = true ∧ e 11 = true ∧ True from hdn 12 q); obtain ⟨r7, -⟩ := (show e 7 = true ∧ True from hdn 8 r8); obtain ⟨r6, -⟩ := (show e 6 = true ∧ True from hdn 7 r7); exact r6
        have h15 : e 15 = false := fls he fun q => by obtain ⟨r14, -, -, -, -, -, -, -, -, -, -, -, -, -, -, -, -⟩ := (show e 14 = true ∧ e 12 = true ∧ e 12 = true ∧ e 0 = true ∧ e 1 = true ∧ e 2 = true ∧ e 3 = true ∧ e 4 = true ∧ e 5 = true ∧ e 6 = true ∧ e 7 = true ∧ e 8 = true ∧ e 9 = true ∧ e 10 = true ∧ e 11 = true ∧ e 12 = true ∧ True from hdn 15 q); obtain ⟨r13, -, -, -, -, -, -, -, -, -, -, -, -, -, -⟩ := (show e 13 = true ∧ e 0 = true ∧ e 1 = true ∧ e 2 = true ∧ e 3 = true ∧ e 4 = true ∧ e 5 = true ∧ e 6 = true ∧ e 7 = true ∧ e 8 = true ∧ e 9 = true ∧ e 10 = true ∧ e 11 = true ∧ e 12 = true ∧ True from hdn 14 r14); obtain ⟨-, -, -, -, -, -, -, -, -, -, -, -, -, -, r12, -⟩ := (show e 1 = true ∧ e 2 = true ∧ e 0 = true ∧ e 1 = true ∧ e 2 = true ∧ e 3 = true ∧ e 4 = true ∧ e 5 = true ∧ e 6 = true ∧ e 7 = true ∧ e 8 = true ∧ e 9 = true ∧ e 10 = true ∧ e 11 = true ∧ e 12 = true ∧ True from hdn 13 r13); obtain ⟨r8, -, -, -⟩ := (show e 8 = true ∧ e 9 = true ∧ e 11 = true ∧ True from hdn 12 r12); obtain ⟨r7, -⟩ := (show e 7 = true ∧ True from hdn 8 r8); obtain ⟨r6, -⟩ := (show e 6 = true ∧ True from hdn 7 r7); exact r6
        simp only [setE, h3, h4, h5, he, h12, h15, cj_t, cj_f, cjn_t, cjn_f, cb_t, cb_f]
        refine U (q_idxU (V rfl) rfl (V rfl) ts22 te22 (by omega) (by first | omega | (simp only [List.length_set]; omega))) <| Nt <| We ?_ ?_
        ·exact ⟨V rfl, V rfl, V rfl, V rfl, V rfl, V rfl, V rfl, V rfl, V rfl, V rfl, V rfl, V rfl, Vj, V rfl, V rfl, V rfl, V rfl, V rfl, V rfl, V rfl, Z⟩
        ·exact ⟨⟨_, rfl, ⟨rfl, rfl, (An rfl)⟩⟩, ⟨_, rfl, ⟨rfl, rfl, (An rfl)⟩⟩, ⟨_, rfl, rfl⟩, ⟨_, rfl, rfl⟩, Z⟩
       ·intro e hdn he hdp
        obtain ⟨h6, -⟩ := (show e 6 = true ∧ True from hdp)
        obtain ⟨h4, h5, -⟩ := (show e 4 = true ∧ e 5 = true ∧ True from hdn 6 h6)
        obtain ⟨h3, -⟩ := (show e 3 = true ∧ True from hdn 4 h4)
        have h12 : e 12 = false := fls he fun q => by obtain ⟨r8, -, -, -⟩ := (show e 8 = true ∧ e 9 = true ∧ e 11 = true ∧ True from hdn 12 q); obtain ⟨r7, -⟩ := (show e 7 = true ∧ True from hdn 8 r8); exact r7
        have h15 : e 15 = false := fls he fun q => by obtain ⟨r14, -, -, -, -, -, -, -, -, -, -, -, -, -, -, -, -⟩ := (show e 14 = true ∧ e 12 = true ∧ e 12 = true ∧ e 0 = true ∧ e 1 = true ∧ e 2 = true ∧ e 3 = true ∧ e 4 = true ∧ e 5 = true ∧ e 6 = true ∧ e 7 = true ∧ e 8 = true ∧ e 9 = true ∧ e 10 = true ∧ e 11 = true ∧ e 12 = true ∧ True from hdn 15 q); obtain ⟨r13, -, -, -, -, -, -, -, -, -, -, -, -, -, -⟩ := (show e 13 = true ∧ e 0 = true ∧ e 1 = true ∧ e 2 = true ∧ e 3 = true ∧ e 4 = true ∧ e 5 = true ∧ e 6 = true ∧ e 7 = true ∧ e 8 = true ∧ e 9 = true ∧ e 10 = true ∧ e 11 = true ∧ e 12 = true ∧ True from hdn 14 r14); obtain ⟨-, -, -, -, -, -, -, -, -, -, -, -, -, -, r12, -⟩ := (show e 1 = true ∧ e 2 = true ∧ e 0 = true ∧ e 1 = true ∧ e 2 = true ∧ e 3 = true ∧ e 4 = true ∧ e 5 = true ∧ e 6 = true ∧ e 7 = true ∧ e 8 = true ∧ e 9 = true ∧ e 10 = true ∧ e 11 = true ∧ e 12 = true ∧ True from hdn 13 r13); obtain ⟨r8, -, -, -⟩ := (show e 8 = true ∧ e 9 = true ∧ e 11 = true ∧ True from hdn 12 r12); obtain ⟨r7, -⟩ := (show e 7 = true ∧ True from hdn 8 r8); exact r7
        simp only [setE, h3, h4, h5, h6, he, h12, h15, cj_t, cj_f, cjn_t, cjn_f, cb_t, cb_f]
        refine U (FlO _ _ (V rfl) Un61 rfl 0 Sz33) <| Nt <| We ?_ ?_
        ·exact ⟨V rfl, V rfl, V rfl, V rfl, V rfl, V rfl, V rfl, V rfl, V rfl, V rfl, V rfl, V rfl, Vj, V rfl, V rfl, V rfl, V rfl, V rfl, V rfl, V rfl, Z⟩
        ·exact ⟨⟨_, rfl, ⟨rfl, rfl, (An rfl)⟩⟩, ⟨_, rfl, ⟨rfl, rfl, (An rfl)⟩⟩, ⟨_, rfl, rfl⟩, ⟨_, rfl, rfl⟩, Z⟩
       ·intro e hdn he hdp
        obtain ⟨h7, -⟩ := (show e 7 = true ∧ True from hdp)
        obtain ⟨h6, -⟩ := (show e 6 = true ∧ True from hdn 7 h7)
        obtain ⟨h4, h5, -⟩ := (show e 4 = true ∧ e 5 = true ∧ True from hdn 6 h6)
        obtain ⟨h3, -⟩ := (show e 3 = true ∧ True from hdn 4 h4)
        have h12 : e 12 = false := fls he fun q => by obtain ⟨r8, -, -, -⟩ := (show e 8 = true ∧ e 9 = true ∧ e 11 = true ∧ True from hdn 12 q); exact r8
        have h15 : e 15 = false := fls he fun q => by obtain ⟨r14, -, -, -, -, -, -, -, -, -, -, -, -, -, -, -, -⟩ := (show e 14 = true ∧ e 12 = true ∧ e 12 = true ∧ e 0 = true ∧ e 1 = true ∧ e 2 = true ∧ e 3 = true ∧ e 4 = true ∧ e 5 = true ∧ e 6 = true ∧ e 7 = true ∧ e 8 = true ∧ e 9 = true ∧ e 10 = true ∧ e 11 = true ∧ e 12 = true ∧ True from hdn 15 q); obtain ⟨r13, -, -, -, -, -, -, -, -, -, -, -, -, -, -⟩ := (show e 13 = true ∧ e 0 = true ∧ e 1 = true ∧ e 2 = true ∧ e 3 = true ∧ e 4 = true ∧ e 5 = true ∧ e 6 = true ∧ e 7 = true ∧ e 8 = true ∧ e 9 = true ∧ e 10 = true ∧ e 11 = true ∧ e 12 = true ∧ True from hdn 14 r14); obtain ⟨-, -, -, -, -, -, -, -, -, -, -, -, -, -, r12, -⟩ := (show e 1 = true ∧ e 2 = true ∧ e 0 = true ∧ e 1 = true ∧ e 2 = true ∧ e 3 = true ∧ e 4 = true ∧ e 5 = true ∧ e 6 = true ∧ e 7 = true ∧ e 8 = true ∧ e 9 = true ∧ e 10 = true ∧ e 11 = true ∧ e 12 = true ∧ True from hdn 13 r13); obtain ⟨r8, -, -, -⟩ := (show e 8 = true ∧ e 9 = true ∧ e 11 = true ∧ True from hdn 12 r12); exact r8
        simp only [setE, h3, h4, h5, h6, h7, he, h12, h15, cj_t, cj_f, cjn_t, cjn_f, cb_t, cb_f]
        refine U (LdU (V rfl) rfl Ga33 (by decide) uat_hole) <| Nt <| We ?_ ?_
        ·exact ⟨V rfl, V rfl, V rfl, V rfl, V rfl, V rfl, V rfl, V rfl, V rfl, V rfl, V rfl, V rfl, Vj, V rfl, V rfl, V rfl, V rfl, V rfl, V rfl, V rfl, Z⟩
        ·exact ⟨⟨_, rfl, ⟨rfl, rfl, (An rfl)⟩⟩, ⟨_, rfl, ⟨rfl, rfl, (An rfl)⟩⟩, ⟨_, rfl, rfl⟩, ⟨_, rfl, rfl⟩, Z⟩
       ·intro e hdn he hdp
        have h12 : e 12 = false := fls he fun q => by obtain ⟨-, r9, -, -⟩ := (show e 8 = true ∧ e 9 = true ∧ e 11 = true ∧ True from hdn 12 q); exact r9
        have h15 : e 15 = false := fls he fun q => by obtain ⟨r14, -, -, -, -, -, -, -, -, -, -, -, -, -, -, -, -⟩ := (show e 14 = true ∧ e 12 = true ∧ e 12 = true ∧ e 0 = true ∧ e 1 = true ∧ e 2 = true ∧ e 3 = true ∧ e 4 = true ∧ e 5 = true ∧ e 6 = true ∧ e 7 = true ∧ e 8 = true ∧ e 9 = true ∧ e 10 = true ∧ e 11 = true ∧ e 12 = true ∧ True from hdn 15 q); obtain ⟨r13, -, -, -, -, -, -, -, -, -, -, -, -, -, -⟩ := (show e 13 = true ∧ e 0 = true ∧ e 1 = true ∧ e 2 = true ∧ e 3 = true ∧ e 4 = true ∧ e 5 = true ∧ e 6 = true ∧ e 7 = true ∧ e 8 = true ∧ e 9 = true ∧ e 10 = true ∧ e 11 = true ∧ e 12 = true ∧ True from hdn 14 r14); obtain ⟨-, -, -, -, -, -, -, -, -, -, -, -, -, -, r12, -⟩ := (show e 1 = true ∧ e 2 = true ∧ e 0 = true ∧ e 1 = true ∧ e 2 = true ∧ e 3 = true ∧ e 4 = true ∧ e 5 = true ∧ e 6 = true ∧ e 7 = true ∧ e 8 = true ∧ e 9 = true ∧ e 10 = true ∧ e 11 = true ∧ e 12 = true ∧ True from hdn 13 r13); obtain ⟨-, r9, -, -⟩ := (show e 8 = true ∧ e 9 = true ∧ e 11 = true ∧ True from hdn 12 r12); exact r9
        simp only [setE, he, h12, h15, cj_t, cj_f, cjn_t, cjn_f, cb_t, cb_f]
        refine U (Mv (V rfl)) <| Nt <| We ?_ ?_
        ·exact ⟨V rfl, V rfl, V rfl, V rfl, V rfl, V rfl, V rfl, V rfl, V rfl, V rfl, V rfl, V rfl, Vj, V rfl, V rfl, V rfl, V rfl, V rfl, V rfl, V rfl, Z⟩
        ·exact ⟨⟨_, rfl, ⟨rfl, rfl, (An rfl)⟩⟩, ⟨_, rfl, ⟨rfl, rfl, (An rfl)⟩⟩, ⟨_, rfl, rfl⟩, ⟨_, rfl, rfl⟩, Z⟩
       ·intro e hdn he hdp
        have h12 : e 12 = false := fls he fun q => by obtain ⟨-, -, r11, -⟩ := (show e 8 = true ∧ e 9 = true ∧ e 11 = true ∧ True from hdn 12 q); obtain ⟨r10, -⟩ := (show e 10 = true ∧ True from hdn 11 r11); exact r10
        have h15 : e 15 = false := fls he fun q => by obtain ⟨r14, -, -, -, -, -, -, -, -, -, -, -, -, -, -, -, -⟩ := (show e 14 = true ∧ e 12 = true ∧ e 12 = true ∧ e 0 = true ∧ e 1 = true ∧ e 2 = true ∧ e 3 = true ∧ e 4 = true ∧ e 5 = true ∧ e 6 = true ∧ e 7 = true ∧ e 8 = true ∧ e 9 = true ∧ e 10 = true ∧ e 11 = true ∧ e 12 = true ∧ True from hdn 15 q); obtain ⟨r13, -, -, -, -, -, -, -, -, -, -, -, -, -, -⟩ := (show e 13 = true ∧ e 0 = true ∧ e 1 = true ∧ e 2 = true ∧ e 3 = true ∧ e 4 = true ∧ e 5 = true ∧ e 6 = true ∧ e 7 = true ∧ e 8 = true ∧ e 9 = true ∧ e 10 = true ∧ e 11 = true ∧ e 12 = true ∧ True from hdn 14 r14); obtain ⟨-, -, -, -, -, -, -, -, -, -, -, -, -, -, r12, -⟩ := (show e 1 = true ∧ e 2 = true ∧ e 0 = true ∧ e 1 = true ∧ e 2 = true ∧ e 3 = true ∧ e 4 = true ∧ e 5 = true ∧ e 6 = true ∧ e 7 = true ∧ e 8 = true ∧ e 9 = true ∧ e 10 = true ∧ e 11 = true ∧ e 12 = true ∧ True from hdn 13 r13); obtain ⟨-, -, r11, -⟩ := (show e 8 = true ∧ e 9 = true ∧ e 11 = true ∧ True from hdn 12 r12); obtain ⟨r10, -⟩ := (show e 10 = true ∧ True from hdn 11 r11); exact r10
        simp only [setE, he, h12, h15, cj_t, cj_f, cjn_t, cjn_f, cb_t, cb_f]
        refine U (Mv (V rfl)) <| Nt <| We ?_ ?_
        ·exact ⟨V rfl, V rfl, V rfl, V rfl, V rfl, V rfl, V rfl, V rfl, V rfl, V rfl, V rfl, V rfl, Vj, V rfl, V rfl, V rfl, V rfl, V rfl, V rfl, V rfl, Z⟩
        ·exact ⟨⟨_, rfl, ⟨rfl, rfl, (An rfl)⟩⟩, ⟨_, rfl, ⟨rfl, rfl, (An rfl)⟩⟩, ⟨_, rfl, rfl⟩, ⟨_, rfl, rfl⟩, Z⟩
       ·intro e hdn he hdp
        obtain ⟨h10, -⟩ := (show e 10 = true ∧ True from hdp)
        have h12 : e 12 = false := fls he fun q => by obtain ⟨-, -, r11, -⟩ := (show e 8 = true ∧ e 9 = true ∧ e 11 = true ∧ True from hdn 12 q); exact r11
        have h15 : e 15 = false := fls he fun q => by obtain ⟨r14, -, -, -, -, -, -, -, -, -, -, -, -, -, -, -, -⟩ := (show e 14 = true ∧ e 12 = true ∧ e 12 = true ∧ e 0 = true ∧ e 1 = true ∧ e 2 = true ∧ e 3 = true ∧ e 4 = true ∧ e 5 = true ∧ e 6 = true ∧ e 7 = true ∧ e 8 = true ∧ e 9 = true ∧ e 10 = true ∧ e 11 = true ∧ e 12 = true ∧ True from hdn 15 q); obtain ⟨r13, -, -, -, -, -, -, -, -, -, -, -, -, -, -⟩ := (show e 13 = true ∧ e 0 = true ∧ e 1 = true ∧ e 2 = true ∧ e 3 = true ∧ e 4 = true ∧ e 5 = true ∧ e 6 = true ∧ e 7 = true ∧ e 8 = true ∧ e 9 = true ∧ e 10 = true ∧ e 11 = true ∧ e 12 = true ∧ True from hdn 14 r14); obtain ⟨-, -, -, -, -, -, -, -, -, -, -, -, -, -, r12, -⟩ := (show e 1 = true ∧ e 2 = true ∧ e 0 = true ∧ e 1 = true ∧ e 2 = true ∧ e 3 = true ∧ e 4 = true ∧ e 5 = true ∧ e 6 = true ∧ e 7 = true ∧ e 8 = true ∧ e 9 = true ∧ e 10 = true ∧ e 11 = true ∧ e 12 = true ∧ True from hdn 13 r13); obtain ⟨-, -, r11, -⟩ := (show e 8 = true ∧ e 9 = true ∧ e 11 = true ∧ True from hdn 12 r12); exact r11
        simp only [setE, h10, he, h12, h15, cj_t, cj_f, cjn_t, cjn_f, cb_t, cb_f]
        refine Uw (w_bs (n := 1) (zget := fun _ => iv 0) [(fun _ => iv (c.pl))] (rowG inCell 0 [c.pl]) Un33 Sz3 zero3 (by decide) rfl (by decide) ⟨⟨rfl, .inr ⟨rfl, (V rfl), rfl⟩, rfl⟩, Z⟩ ⟨Z, ⟨Z, rfl⟩⟩) <| Nt <| We ?_ ?_
        ·exact ⟨V rfl, V rfl, V rfl, V rfl, V rfl, V rfl, V rfl, V rfl, V rfl, V rfl, V rfl, V rfl, Vj, V rfl, V rfl, V rfl, V rfl, V rfl, V rfl, V rfl, Z⟩
        ·exact ⟨⟨_, rfl, ⟨rfl, rfl, (An rfl)⟩⟩, ⟨_, rfl, ⟨rfl, rfl, (An rfl)⟩⟩, ⟨_, rfl, rfl⟩, ⟨_, rfl, rfl⟩, Z⟩
       ·intro e hdn he hdp
        obtain ⟨h8, h9, h11, -⟩ := (show e 8 = true ∧ e 9 = true ∧ e 11 = true ∧ True from hdp)
        obtain ⟨h10, -⟩ := (show e 10 = true ∧ True from hdn 11 h11)
        obtain ⟨h7, -⟩ := (show e 7 = true ∧ True from hdn 8 h8)
        obtain ⟨h6, -⟩ := (show e 6 = true ∧ True from hdn 7 h7)
        obtain ⟨h4, h5, -⟩ := (show e 4 = true ∧ e 5 = true ∧ True from hdn 6 h6)
        obtain ⟨h3, -⟩ := (show e 3 = true ∧ True from hdn 4 h4)
        have h13 : e 13 = false := fls he fun q => by obtain ⟨-, -, -, -, -, -, -, -, -, -, -, -, -, -, r12, -⟩ := (show e 1 = true ∧ e 2 = true ∧ e 0 = true ∧ e 1 = true ∧ e 2 = true ∧ e 3 = true ∧ e 4 = true ∧ e 5 = true ∧ e 6 = true ∧ e 7 = true ∧ e 8 = true ∧ e 9 = true ∧ e 10 = true ∧ e 11 = true ∧ e 12 = true ∧ True from hdn 13 q); exact r12
        have h14 : e 14 = false := fls he fun q => by obtain ⟨r13, -, -, -, -, -, -, -, -, -, -, -, -, -, -⟩ := (show e 13 = true ∧ e 0 = true ∧ e 1 = true ∧ e 2 = true ∧ e 3 = true ∧ e 4 = true ∧ e 5 = true ∧ e 6 = true ∧ e 7 = true ∧ e 8 = true ∧ e 9 = true ∧ e 10 = true ∧ e 11 = true ∧ e 12 = true ∧ True from hdn 14 q); obtain ⟨-, -, -, -, -, -, -, -, -, -, -, -, -, -, r12, -⟩ := (show e 1 = true ∧ e 2 = true ∧ e 0 = true ∧ e 1 = true ∧ e 2 = true ∧ e 3 = true ∧ e 4 = true ∧ e 5 = true ∧ e 6 = true ∧ e 7 = true ∧ e 8 = true ∧ e 9 = true ∧ e 10 = true ∧ e 11 = true ∧ e 12 = true ∧ True from hdn 13 r13); exact r12
        have h15 : e 15 = false := fls he fun q => by obtain ⟨r14, -, -, -, -, -, -, -, -, -, -, -, -, -, -, -, -⟩ := (show e 14 = true ∧ e 12 = true ∧ e 12 = true ∧ e 0 = true ∧ e 1 = true ∧ e 2 = true ∧ e 3 = true ∧ e 4 = true ∧ e 5 = true ∧ e 6 = true ∧ e 7 = true ∧ e 8 = true ∧ e 9 = true ∧ e 10 = true ∧ e 11 = true ∧ e 12 = true ∧ True from hdn 15 q); obtain ⟨r13, -, -, -, -, -, -, -, -, -, -, -, -, -, -⟩ := (show e 13 = true ∧ e 0 = true ∧ e 1 = true ∧ e 2 = true ∧ e 3 = true ∧ e 4 = true ∧ e 5 = true ∧ e 6 = true ∧ e 7 = true ∧ e 8 = true ∧ e 9 = true ∧ e 10 = true ∧ e 11 = true ∧ e 12 = true ∧ True from hdn 14 r14); obtain ⟨-, -, -, -, -, -, -, -, -, -, -, -, -, -, r12, -⟩ := (show e 1 = true ∧ e 2 = true ∧ e 0 = true ∧ e 1 = true ∧ e 2 = true ∧ e 3 = true ∧ e 4 = true ∧ e 5 = true ∧ e 6 = true ∧ e 7 = true ∧ e 8 = true ∧ e 9 = true ∧ e 10 = true ∧ e 11 = true ∧ e 12 = true ∧ True from hdn 13 r13); exact r12
        simp only [setE, h3, h4, h5, h6, h7, h8, h9, h10, h11, he, h13, h14, h15, cj_t, cj_f, cjn_t, cjn_f, cb_t, cb_f]
        refine CM (cargs := [SV.own 1000, iv (idxI (Nd.kids ((outSt l c.pl).getD (Int.toNat p.pl) default)) ((ah.getD 0 default).pl)), inRow ([c.pl])]) [(1000, 10)] [(0, 11)] en98 (by exact ⟨(V rfl), (V rfl), (V rfl), Z⟩) (insI_ct (Nd.kids ((outSt l c.pl).getD (Int.toNat p.pl) default)) ([c.pl]) (idxI (Nd.kids ((outSt l c.pl).getD (Int.toNat p.pl) default)) ((ah.getD 0 default).pl)) (by first | omega | assumption) (by first | omega | (simp only [List.length_cons, List.length_nil]; omega) | assumption)) (by exact ⟨⟨_, rfl, rfl⟩, Z⟩) rfl (freshN_cons (fresh_mk ⟨(noId_cj rfl), (noId_cj rfl), (noId_cj rfl), rfl, rfl, rfl, rfl, rfl, rfl, rfl, rfl, rfl, rfl, rfl, rfl, rfl, rfl, rfl, rfl, rfl, Z⟩ rfl rfl) rfl rfl) rfl rfl <| Nt <| We ?_ ?_
        ·exact ⟨V rfl, V rfl, V rfl, V rfl, V rfl, V rfl, V rfl, V rfl, V rfl, V rfl, V rfl, V rfl, V rfl, Vj, Vj, V rfl, V rfl, V rfl, V rfl, V rfl, Z⟩
        ·exact ⟨⟨_, rfl, ⟨rfl, rfl, (An rfl)⟩⟩, ⟨_, rfl, ⟨rfl, rfl, (An rfl)⟩⟩, ⟨_, rfl, rfl⟩, ⟨_, rfl, rfl⟩, Z⟩
       ·intro e hdn he hdp
        obtain ⟨h1, h2, h0, -, -, h3, h4, h5, h6, h7, h8, h9, h10, h11, h12, -⟩ := (show e 1 = true ∧ e 2 = true ∧ e 0 = true ∧ e 1 = true ∧ e 2 = true ∧ e 3 = true ∧ e 4 = true ∧ e 5 = true ∧ e 6 = true ∧ e 7 = true ∧ e 8 = true ∧ e 9 = true ∧ e 10 = true ∧ e 11 = true ∧ e 12 = true ∧ True from hdp)
        have h15 : e 15 = false := fls he fun q => by obtain ⟨r14, -, -, -, -, -, -, -, -, -, -, -, -, -, -, -, -⟩ := (show e 14 = true ∧ e 12 = true ∧ e 12 = true ∧ e 0 = true ∧ e 1 = true ∧ e 2 = true ∧ e 3 = true ∧ e 4 = true ∧ e 5 = true ∧ e 6 = true ∧ e 7 = true ∧ e 8 = true ∧ e 9 = true ∧ e 10 = true ∧ e 11 = true ∧ e 12 = true ∧ True from hdn 15 q); obtain ⟨r13, -, -, -, -, -, -, -, -, -, -, -, -, -, -⟩ := (show e 13 = true ∧ e 0 = true ∧ e 1 = true ∧ e 2 = true ∧ e 3 = true ∧ e 4 = true ∧ e 5 = true ∧ e 6 = true ∧ e 7 = true ∧ e 8 = true ∧ e 9 = true ∧ e 10 = true ∧ e 11 = true ∧ e 12 = true ∧ True from hdn 14 r14); exact r13
        simp only [setE, h0, h1, h2, h3, h4, h5, h6, h7, h8, h9, h10, h11, h12, he, h15, cj_t, cj_f, cjn_t, cjn_f, cb_t, cb_f]
        refine U (q_idxU (V rfl) rfl (V rfl) ts22 te22 (by omega) (by first | omega | (simp only [List.length_set]; omega))) <| Nt <| We ?_ ?_
        ·exact ⟨V rfl, V rfl, V rfl, V rfl, V rfl, V rfl, V rfl, V rfl, V rfl, V rfl, V rfl, V rfl, V rfl, V rfl, V rfl, V rfl, V rfl, V rfl, V rfl, V rfl, Z⟩
        ·exact ⟨⟨_, rfl, ⟨rfl, rfl, (An rfl)⟩⟩, ⟨_, rfl, ⟨rfl, rfl, (An rfl)⟩⟩, ⟨_, rfl, rfl⟩, ⟨_, rfl, rfl⟩, Z⟩
       ·intro e hdn he hdp
        obtain ⟨h13, h0, h1, h2, h3, h4, h5, h6, h7, h8, h9, h10, h11, h12, -⟩ := (show e 13 = true ∧ e 0 = true ∧ e 1 = true ∧ e 2 = true ∧ e 3 = true ∧ e 4 = true ∧ e 5 = true ∧ e 6 = true ∧ e 7 = true ∧ e 8 = true ∧ e 9 = true ∧ e 10 = true ∧ e 11 = true ∧ e 12 = true ∧ True from hdp)
        have h15 : e 15 = false := fls he fun q => by obtain ⟨r14, -, -, -, -, -, -, -, -, -, -, -, -, -, -, -, -⟩ := (show e 14 = true ∧ e 12 = true ∧ e 12 = true ∧ e 0 = true ∧ e 1 = true ∧ e 2 = true ∧ e 3 = true ∧ e 4 = true ∧ e 5 = true ∧ e 6 = true ∧ e 7 = true ∧ e 8 = true ∧ e 9 = true ∧ e 10 = true ∧ e 11 = true ∧ e 12 = true ∧ True from hdn 15 q); exact r14
        simp only [setE, h0, h1, h2, h3, h4, h5, h6, h7, h8, h9, h10, h11, h12, h13, he, h15, cj_t, cj_f, cjn_t, cjn_f, cb_t, cb_f]
        refine U (FlO _ _ (V rfl) Un61 rfl 0 Sz33) <| Nt <| We ?_ ?_
        ·exact ⟨V rfl, V rfl, V rfl, V rfl, V rfl, V rfl, V rfl, V rfl, V rfl, V rfl, V rfl, V rfl, V rfl, V rfl, V rfl, V rfl, V rfl, V rfl, V rfl, V rfl, Z⟩
        ·exact ⟨⟨_, rfl, ⟨rfl, rfl, (An rfl)⟩⟩, ⟨_, rfl, ⟨rfl, rfl, (An rfl)⟩⟩, ⟨_, rfl, rfl⟩, ⟨_, rfl, rfl⟩, Z⟩
       ·intro e hdn he hdp
        obtain ⟨h14, h12, -, h0, h1, h2, h3, h4, h5, h6, h7, h8, h9, h10, h11, -, -⟩ := (show e 14 = true ∧ e 12 = true ∧ e 12 = true ∧ e 0 = true ∧ e 1 = true ∧ e 2 = true ∧ e 3 = true ∧ e 4 = true ∧ e 5 = true ∧ e 6 = true ∧ e 7 = true ∧ e 8 = true ∧ e 9 = true ∧ e 10 = true ∧ e 11 = true ∧ e 12 = true ∧ True from hdp)
        obtain ⟨h13, -, -, -, -, -, -, -, -, -, -, -, -, -, -⟩ := (show e 13 = true ∧ e 0 = true ∧ e 1 = true ∧ e 2 = true ∧ e 3 = true ∧ e 4 = true ∧ e 5 = true ∧ e 6 = true ∧ e 7 = true ∧ e 8 = true ∧ e 9 = true ∧ e 10 = true ∧ e 11 = true ∧ e 12 = true ∧ True from hdn 14 h14)
        simp only [setE, h0, h1, h2, h3, h4, h5, h6, h7, h8, h9, h10, h11, h12, h13, h14, he, cj_t, cj_f, cjn_t, cjn_f, cb_t, cb_f]
        refine t_stH (V rfl) rfl (V rfl) (one_own rfl) Sz33 (by decide) (.inl rfl) <| Nt <| We ?_ ?_
        ·exact ⟨V rfl, V rfl, V rfl, V rfl, V rfl, V rfl, V rfl, V rfl, V rfl, V rfl, V rfl, V rfl, V rfl, V rfl, V rfl, V rfl, V rfl, V rfl, V rfl, V rfl, Z⟩
        ·exact ⟨⟨_, rfl, ⟨rfl, rfl, (An rfl)⟩⟩, ⟨_, rfl, ⟨rfl, rfl, (An rfl)⟩⟩, ⟨_, rfl, rfl⟩, ⟨_, rfl, rfl⟩, Z⟩
       ·intro e he
        have h0 := he 0 (by decide)
        have h1 := he 1 (by decide)
        have h2 := he 2 (by decide)
        have h3 := he 3 (by decide)
        have h4 := he 4 (by decide)
        have h5 := he 5 (by decide)
        have h6 := he 6 (by decide)
        have h7 := he 7 (by decide)
        have h8 := he 8 (by decide)
        have h9 := he 9 (by decide)
        have h10 := he 10 (by decide)
        have h11 := he 11 (by decide)
        have h12 := he 12 (by decide)
        have h13 := he 13 (by decide)
        have h14 := he 14 (by decide)
        have h15 := he 15 (by decide)
        show Weak _ ⟨[(102, cj (e 0) (SV.bp 1 0)), (103, cj (e 1) (SV.own 9)), (104, cj (e 2) (iv (p.pl))), (105, cj (e 3) (SV.bp 1 0)), (106, cj (e 4) (SV.own 9)), (107, cj (e 5) (iv (p.pl))), (108, cj (e 6) (SV.oe 9 8 (Int.toNat p.pl) 0)), (109, cj (e 7) (SV.oe 9 8 (Int.toNat p.pl) 5)), (110, cj (e 8) (SV.own 10)), (111, cj (e 9) (iv (idxI (Nd.kids ((outSt l c.pl).getD (Int.toNat p.pl) default)) ((ah.getD 0 default).pl)))), (112, cj (e 10) (iv (c.pl))), (113, cj (e 11) (inRow ([c.pl]))), (114, cj (e 12) (SV.own 11)), (115, cj (e 13) (SV.oe 9 8 (Int.toNat p.pl) 0)), (116, cj (e 14) (SV.oe 9 8 (Int.toNat p.pl) 5)), (4, SV.bp 1 0), (8, SV.bp 4 0), (11, iv (p.pl)), (12, iv (c.pl)), (13, iv (idxI (Nd.kids ((outSt l c.pl).getD (Int.toNat p.pl) default)) ((ah.getD 0 default).pl)))], (cb (e 12) (cb (e 15) [(1, Own.box 1 (fun zt => SV.renm (rn [(1000, 1), (1001, 8), (0, 9)]) ((cmpG [SV.own 0]) zt)) 24), (4, Own.box 1 (cmpG [SV.v (Value.slice none 0 0)]) 24), (9, urowOf ndCell 8 default (outSt l c.pl) 61 5 Nd.kids inCell 1 0 3 l.length (some (Int.toNat p.pl, SV.own 11))), (11, ownOf inCell 1 0 ((Nd.kids ((outSt l c.pl).getD (Int.toNat p.pl) default)).take (Int.toNat (idxI (Nd.kids ((outSt l c.pl).getD (Int.toNat p.pl) default)) ((ah.getD 0 default).pl))) ++ ([c.pl]) ++ (Nd.kids ((outSt l c.pl).getD (Int.toNat p.pl) default)).drop (Int.toNat (idxI (Nd.kids ((outSt l c.pl).getD (Int.toNat p.pl) default)) ((ah.getD 0 default).pl)))) 3)] [(1, Own.box 1 (fun zt => SV.renm (rn [(1000, 1), (1001, 8), (0, 9)]) ((cmpG [SV.own 0]) zt)) 24), (4, Own.box 1 (cmpG [SV.v (Value.slice none 0 0)]) 24), (9, urowOf ndCell 8 default (outSt l c.pl) 61 5 Nd.kids inCell 1 0 3 l.length (some (Int.toNat p.pl, SV.own 10))), (11, ownOf inCell 1 0 ((Nd.kids ((outSt l c.pl).getD (Int.toNat p.pl) default)).take (Int.toNat (idxI (Nd.kids ((outSt l c.pl).getD (Int.toNat p.pl) default)) ((ah.getD 0 default).pl))) ++ ([c.pl]) ++ (Nd.kids ((outSt l c.pl).getD (Int.toNat p.pl) default)).drop (Int.toNat (idxI (Nd.kids ((outSt l c.pl).getD (Int.toNat p.pl) default)) ((ah.getD 0 default).pl)))) 3)]) (cb (e 15) [] [(1, Own.box 1 (fun zt => SV.renm (rn [(1000, 1), (1001, 8), (0, 9)]) ((cmpG [SV.own 0]) zt)) 24), (4, Own.box 1 (cmpG [SV.v (Value.slice none 0 0)]) 24), (9, urowOf ndCell 8 default (outSt l c.pl) 61 5 Nd.kids inCell 1 0 3 l.length (some (Int.toNat p.pl, SV.own 10))), (10, ownOf inCell 1 0 (Nd.kids ((outSt l c.pl).getD (Int.toNat p.pl) default)) 3)]))⟩ _
        simp only [h0, h1, h2, h3, h4, h5, h6, h7, h8, h9, h10, h11, h12, h13, h14, h15]
        show Weak _ ⟨[(102, SV.bp 1 0), (103, SV.own 9), (104, iv (p.pl)), (105, SV.bp 1 0), (106, SV.own 9), (107, iv (p.pl)), (108, SV.oe 9 8 (Int.toNat p.pl) 0), (109, SV.oe 9 8 (Int.toNat p.pl) 5), (110, SV.own 10), (111, iv (idxI (Nd.kids ((outSt l c.pl).getD (Int.toNat p.pl) default)) ((ah.getD 0 default).pl))), (112, iv (c.pl)), (113, inRow ([c.pl])), (114, SV.own 11), (115, SV.oe 9 8 (Int.toNat p.pl) 0), (116, SV.oe 9 8 (Int.toNat p.pl) 5), (4, SV.bp 1 0), (8, SV.bp 4 0), (11, iv (p.pl)), (12, iv (c.pl)), (13, iv (idxI (Nd.kids ((outSt l c.pl).getD (Int.toNat p.pl) default)) ((ah.getD 0 default).pl)))], [(1, Own.box 1 (fun zt => SV.renm (rn [(1000, 1), (1001, 8), (0, 9)]) ((cmpG [SV.own 0]) zt)) 24), (4, Own.box 1 (cmpG [SV.v (Value.slice none 0 0)]) 24), (9, urowOf ndCell 8 default (outSt l c.pl) 61 5 Nd.kids inCell 1 0 3 l.length (some (Int.toNat p.pl, SV.own 11))), (11, ownOf inCell 1 0 ((Nd.kids ((outSt l c.pl).getD (Int.toNat p.pl) default)).take (Int.toNat (idxI (Nd.kids ((outSt l c.pl).getD (Int.toNat p.pl) default)) ((ah.getD 0 default).pl))) ++ ([c.pl]) ++ (Nd.kids ((outSt l c.pl).getD (Int.toNat p.pl) default)).drop (Int.toNat (idxI (Nd.kids ((outSt l c.pl).getD (Int.toNat p.pl) default)) ((ah.getD 0 default).pl)))) 3)]⟩ _
        refine We ?_ ?_
        ·exact ⟨V rfl, V rfl, V rfl, V rfl, V rfl, V rfl, V rfl, V rfl, V rfl, V rfl, V rfl, V rfl, V rfl, V rfl, V rfl, V rfl, V rfl, V rfl, V rfl, V rfl, Z⟩
        ·exact ⟨⟨_, rfl, ⟨rfl, rfl, (An rfl)⟩⟩, ⟨_, rfl, ⟨rfl, rfl, (An rfl)⟩⟩, ⟨_, rfl, rfl⟩, ⟨_, rfl, rfl⟩, Z⟩
       exact Sq <| Tc (turn_joinT 9 (Int.toNat p.pl) 11 l.length ({ ((outSt l c.pl).getD (Int.toNat p.pl) default) with kids := (Nd.kids ((outSt l c.pl).getD (Int.toNat p.pl) default)).take (Int.toNat (idxI (Nd.kids ((outSt l c.pl).getD (Int.toNat p.pl) default)) ((ah.getD 0 default).pl))) ++ ([c.pl]) ++ (Nd.kids ((outSt l c.pl).getD (Int.toNat p.pl) default)).drop (Int.toNat (idxI (Nd.kids ((outSt l c.pl).getD (Int.toNat p.pl) default)) ((ah.getD 0 default).pl))) }) rfl rfl rfl (by first | omega | (simp only [List.length_set]; omega)) (by omega) (by rw [if_pos (by omega)]) rfl rfl (fun t ht hne => match t, ht, hne with | 0, _, _ => rfl | 1, _, _ => rfl | 2, _, _ => rfl | 3, _, _ => rfl | 4, _, _ => rfl | 5, _, hne => absurd rfl hne | 6, _, _ => rfl | 7, _, _ => rfl) rfl) <| Rt <| U (FlB _ _ (V rfl) Un24 rfl 0 Sz22) <| U (LdB (V rfl) rfl Ga22 (by decide)) <| U (Mv (V rfl)) <| U (Mv (V rfl)) <| U (q_idxU (V rfl) rfl (V rfl) ts22 te22 (by omega) (by first | omega | (simp only [List.length_set]; omega))) <| U (FlO _ _ (V rfl) Un61 rfl 0 Sz3) <| t_stUT ({ (((outSt l c.pl).set (Int.toNat p.pl) ({ ((outSt l c.pl).getD (Int.toNat p.pl) default) with kids := (Nd.kids ((outSt l c.pl).getD (Int.toNat p.pl) default)).take (Int.toNat (idxI (Nd.kids ((outSt l c.pl).getD (Int.toNat p.pl) default)) ((ah.getD 0 default).pl))) ++ ([c.pl]) ++ (Nd.kids ((outSt l c.pl).getD (Int.toNat p.pl) default)).drop (Int.toNat (idxI (Nd.kids ((outSt l c.pl).getD (Int.toNat p.pl) default)) ((ah.getD 0 default).pl))) })).getD (Int.toNat c.pl) default) with par := p.pl }) (V rfl) rfl (V rfl) rfl rfl Sz3 (by decide) (by decide) (by first | omega | (simp only [List.length_set]; omega)) rfl (fun t ht hne => match t, ht, hne with | 0, _, _ => rfl | 1, _, _ => rfl | 2, _, _ => rfl | 3, _, _ => rfl | 4, _, hne => absurd rfl hne | 5, _, _ => rfl | 6, _, _ => rfl | 7, _, _ => rfl) rfl <| Nt <| Sq <| Rt <| U (LBA (V rfl) rfl Ga24 Sz24 (by decide)) <| StA (V rfl) rfl (V rfl) Sz24 <| U (As K) <| Nt <| Tc (turn_uAT 9 rfl rfl (fun _ => rfl)) <| FzC 9 rfl <| Rx <| RR2 rfl (rv_aggI (g' := stG (((outSt l c.pl).set (Int.toNat p.pl) ({ ((outSt l c.pl).getD (Int.toNat p.pl) default) with kids := (Nd.kids ((outSt l c.pl).getD (Int.toNat p.pl) default)).take (Int.toNat (idxI (Nd.kids ((outSt l c.pl).getD (Int.toNat p.pl) default)) ((ah.getD 0 default).pl))) ++ ([c.pl]) ++ (Nd.kids ((outSt l c.pl).getD (Int.toNat p.pl) default)).drop (Int.toNat (idxI (Nd.kids ((outSt l c.pl).getD (Int.toNat p.pl) default)) ((ah.getD 0 default).pl))) })).set (Int.toNat c.pl) ({ (((outSt l c.pl).set (Int.toNat p.pl) ({ ((outSt l c.pl).getD (Int.toNat p.pl) default) with kids := (Nd.kids ((outSt l c.pl).getD (Int.toNat p.pl) default)).take (Int.toNat (idxI (Nd.kids ((outSt l c.pl).getD (Int.toNat p.pl) default)) ((ah.getD 0 default).pl))) ++ ([c.pl]) ++ (Nd.kids ((outSt l c.pl).getD (Int.toNat p.pl) default)).drop (Int.toNat (idxI (Nd.kids ((outSt l c.pl).getD (Int.toNat p.pl) default)) ((ah.getD 0 default).pl))) })).getD (Int.toNat c.pl) default) with par := p.pl }))) (rv_cell (V rfl) rfl Ga24 Sz24) ⟨Z, Ir⟩) (rv_tmp (V rfl)) rfl rfl (by show sv2 (SV.agg 1 (stG (((outSt l c.pl).set (Int.toNat p.pl) ({ ((outSt l c.pl).getD (Int.toNat p.pl) default) with kids := (Nd.kids ((outSt l c.pl).getD (Int.toNat p.pl) default)).take (Int.toNat (idxI (Nd.kids ((outSt l c.pl).getD (Int.toNat p.pl) default)) ((ah.getD 0 default).pl))) ++ ([c.pl]) ++ (Nd.kids ((outSt l c.pl).getD (Int.toNat p.pl) default)).drop (Int.toNat (idxI (Nd.kids ((outSt l c.pl).getD (Int.toNat p.pl) default)) ((ah.getD 0 default).pl))) })).set (Int.toNat c.pl) ({ (((outSt l c.pl).set (Int.toNat p.pl) ({ ((outSt l c.pl).getD (Int.toNat p.pl) default) with kids := (Nd.kids ((outSt l c.pl).getD (Int.toNat p.pl) default)).take (Int.toNat (idxI (Nd.kids ((outSt l c.pl).getD (Int.toNat p.pl) default)) ((ah.getD 0 default).pl))) ++ ([c.pl]) ++ (Nd.kids ((outSt l c.pl).getD (Int.toNat p.pl) default)).drop (Int.toNat (idxI (Nd.kids ((outSt l c.pl).getD (Int.toNat p.pl) default)) ((ah.getD 0 default).pl))) })).getD (Int.toNat c.pl) default) with par := p.pl })))) (iv (0)) = sv2 (SV.agg 1 (stG (insSt l p c ah).1)) (iv (insSt l p c ah).2); rw [ins_6 (by omega) hc2s hq3 hq4 hq5, insPos, if_pos hah]; rfl)
      ·have hc6s := hc6; try simp only [BL] at hc6s
       refine Sk <| Sq <| c_rd (fun e => ⟨[(102, cj (e 0) (SV.bp 1 0)), (103, cj (e 1) (SV.own 9)), (104, cj (e 2) (iv (p.pl))), (105, cj (e 3) (SV.bp 1 0)), (106, cj (e 4) (SV.own 9)), (107, cj (e 5) (iv (p.pl))), (108, cj (e 6) (SV.oe 9 8 (Int.toNat p.pl) 0)), (109, cj (e 7) (SV.oe 9 8 (Int.toNat p.pl) 5)), (110, cj (e 8) (SV.own 10)), (111, cj (e 9) (iv (((Nd.kids ((outSt l c.pl).getD (Int.toNat p.pl) default)).length : Int)))), (112, cj (e 10) (iv (c.pl))), (113, cj (e 11) (inRow ([c.pl]))), (114, cj (e 12) (SV.own 12)), (115, cj (e 13) (SV.oe 9 8 (Int.toNat p.pl) 0)), (116, cj (e 14) (SV.oe 9 8 (Int.toNat p.pl) 5)), (4, SV.bp 1 0), (8, SV.bp 4 0), (11, iv (p.pl)), (12, iv (c.pl)), (13, iv (((Nd.kids ((outSt l c.pl).getD (Int.toNat p.pl) default)).length : Int)))], (cb (e 12) (cb (e 15) [(1, Own.box 1 (fun zt => SV.renm (rn [(1000, 1), (1001, 8), (0, 9)]) ((cmpG [SV.own 0]) zt)) 24), (4, Own.box 1 (cmpG [SV.v (Value.slice none 0 0)]) 24), (9, urowOf ndCell 8 default (outSt l c.pl) 61 5 Nd.kids inCell 1 0 3 l.length (some (Int.toNat p.pl, SV.own 12))), (12, ownOf inCell 1 0 ((Nd.kids ((outSt l c.pl).getD (Int.toNat p.pl) default)).take ((Nd.kids ((outSt l c.pl).getD (Int.toNat p.pl) default)).length) ++ ([c.pl]) ++ (Nd.kids ((outSt l c.pl).getD (Int.toNat p.pl) default)).drop ((Nd.kids ((outSt l c.pl).getD (Int.toNat p.pl) default)).length)) 3)] [(1, Own.box 1 (fun zt => SV.renm (rn [(1000, 1), (1001, 8), (0, 9)]) ((cmpG [SV.own 0]) zt)) 24), (4, Own.box 1 (cmpG [SV.v (Value.slice none 0 0)]) 24), (9, urowOf ndCell 8 default (outSt l c.pl) 61 5 Nd.kids inCell 1 0 3 l.length (some (Int.toNat p.pl, SV.own 10))), (12, ownOf inCell 1 0 ((Nd.kids ((outSt l c.pl).getD (Int.toNat p.pl) default)).take ((Nd.kids ((outSt l c.pl).getD (Int.toNat p.pl) default)).length) ++ ([c.pl]) ++ (Nd.kids ((outSt l c.pl).getD (Int.toNat p.pl) default)).drop ((Nd.kids ((outSt l c.pl).getD (Int.toNat p.pl) default)).length)) 3)]) (cb (e 15) [] [(1, Own.box 1 (fun zt => SV.renm (rn [(1000, 1), (1001, 8), (0, 9)]) ((cmpG [SV.own 0]) zt)) 24), (4, Own.box 1 (cmpG [SV.v (Value.slice none 0 0)]) 24), (9, urowOf ndCell 8 default (outSt l c.pl) 61 5 Nd.kids inCell 1 0 3 l.length (some (Int.toNat p.pl, SV.own 10))), (10, ownOf inCell 1 0 (Nd.kids ((outSt l c.pl).getD (Int.toNat p.pl) default)) 3)]))⟩) ⟨[(102, SV.bp 1 0), (103, SV.own 9), (104, iv (p.pl)), (105, SV.bp 1 0), (106, SV.own 9), (107, iv (p.pl)), (108, SV.oe 9 8 (Int.toNat p.pl) 0), (109, SV.oe 9 8 (Int.toNat p.pl) 5), (110, SV.own 10), (111, iv (((Nd.kids ((outSt l c.pl).getD (Int.toNat p.pl) default)).length : Int))), (112, iv (c.pl)), (113, inRow ([c.pl])), (114, SV.own 12), (115, SV.oe 9 8 (Int.toNat p.pl) 0), (116, SV.oe 9 8 (Int.toNat p.pl) 5), (4, SV.bp 1 0), (8, SV.bp 4 0), (11, iv (p.pl)), (12, iv (c.pl)), (13, iv (((Nd.kids ((outSt l c.pl).getD (Int.toNat p.pl) default)).length : Int)))], [(1, Own.box 1 (fun zt => SV.renm (rn [(1000, 1), (1001, 8), (0, 9)]) ((cmpG [SV.own 0]) zt)) 24), (4, Own.box 1 (cmpG [SV.v (Value.slice none 0 0)]) 24), (9, urowOf ndCell 8 default (outSt l c.pl) 61 5 Nd.kids inCell 1 0 3 l.length (some (Int.toNat p.pl, SV.own 12))), (12, ownOf inCell 1 0 ((Nd.kids ((outSt l c.pl).getD (Int.toNat p.pl) default)).take ((Nd.kids ((outSt l c.pl).getD (Int.toNat p.pl) default)).length) ++ ([c.pl]) ++ (Nd.kids ((outSt l c.pl).getD (Int.toNat p.pl) default)).drop ((Nd.kids ((outSt l c.pl).getD (Int.toNat p.pl) default)).length)) 3)]⟩ (by kernel_rfl) (by kernel_rfl) ?_ ⟨?_, ?_, ?_, ?_, ?_, ?_, ?_, ?_, ?_, ?_, ?_, ?_, ?_, ?_, ?_, ?_, Z⟩ ?_ ?_
       ·show Weak _ _ ⟨[(102, SV.junk), (103, SV.junk), (104, SV.junk), (105, SV.junk), (106, SV.junk), (107, SV.junk), (108, SV.junk), (109, SV.junk), (110, SV.junk), (111, SV.junk), (112, SV.junk), (113, SV.junk), (114, SV.junk), (115, SV.junk), (116, SV.junk), (4, SV.bp 1 0), (8, SV.bp 4 0), (11, iv (p.pl)), (12, iv (c.pl)), (13, iv (((Nd.kids ((outSt l c.pl).getD (Int.toNat p.pl) default)).length : Int)))], [(1, Own.box 1 (fun zt => SV.renm (rn [(1000, 1), (1001, 8), (0, 9)]) ((cmpG [SV.own 0]) zt)) 24), (4, Own.box 1 (cmpG [SV.v (Value.slice none 0 0)]) 24), (9, urowOf ndCell 8 default (outSt l c.pl) 61 5 Nd.kids inCell 1 0 3 l.length (some (Int.toNat p.pl, SV.own 10))), (10, ownOf inCell 1 0 (Nd.kids ((outSt l c.pl).getD (Int.toNat p.pl) default)) 3)]⟩
        refine We ?_ ?_
        ·exact ⟨Vj, Vj, Vj, Vj, Vj, Vj, Vj, Vj, Vj, Vj, Vj, Vj, Vj, Vj, Vj, V rfl, V rfl, V rfl, V rfl, V rfl, Z⟩
        ·exact ⟨⟨_, rfl, ⟨rfl, rfl, (An rfl)⟩⟩, ⟨_, rfl, ⟨rfl, rfl, (An rfl)⟩⟩, ⟨_, rfl, rfl⟩, ⟨_, rfl, rfl⟩, Z⟩
       ·intro e hdn he hdp
        have h15 : e 15 = false := fls he fun q => by obtain ⟨r14, -, -, -, -, -, -, -, -, -, -, -, -, -, -, -, -⟩ := (show e 14 = true ∧ e 12 = true ∧ e 12 = true ∧ e 0 = true ∧ e 1 = true ∧ e 2 = true ∧ e 3 = true ∧ e 4 = true ∧ e 5 = true ∧ e 6 = true ∧ e 7 = true ∧ e 8 = true ∧ e 9 = true ∧ e 10 = true ∧ e 11 = true ∧ e 12 = true ∧ True from hdn 15 q); obtain ⟨r13, -, -, -, -, -, -, -, -, -, -, -, -, -, -⟩ := (show e 13 = true ∧ e 0 = true ∧ e 1 = true ∧ e 2 = true ∧ e 3 = true ∧ e 4 = true ∧ e 5 = true ∧ e 6 = true ∧ e 7 = true ∧ e 8 = true ∧ e 9 = true ∧ e 10 = true ∧ e 11 = true ∧ e 12 = true ∧ True from hdn 14 r14); obtain ⟨r1, -, -, -, -, -, -, -, -, -, -, -, -, -, -, -⟩ := (show e 1 = true ∧ e 2 = true ∧ e 0 = true ∧ e 1 = true ∧ e 2 = true ∧ e 3 = true ∧ e 4 = true ∧ e 5 = true ∧ e 6 = true ∧ e 7 = true ∧ e 8 = true ∧ e 9 = true ∧ e 10 = true ∧ e 11 = true ∧ e 12 = true ∧ True from hdn 13 r13); obtain ⟨r0, -⟩ := (show e 0 = true ∧ True from hdn 1 r1); exact r0
        simp only [setE, he, h15, cj_t, cj_f, cjn_t, cjn_f, cb_t, cb_f]
        exact U (FlB _ _ (V rfl) Un24 rfl 0 Sz22) <| Nt <| weakS ⟨V rfl, V rfl, V rfl, V rfl, V rfl, V rfl, V rfl, V rfl, V rfl, V rfl, V rfl, V rfl, V rfl, V rfl, V rfl, V rfl, V rfl, V rfl, V rfl, V rfl, Z⟩
       ·intro e hdn he hdp
        obtain ⟨h0, -⟩ := (show e 0 = true ∧ True from hdp)
        have h15 : e 15 = false := fls he fun q => by obtain ⟨r14, -, -, -, -, -, -, -, -, -, -, -, -, -, -, -, -⟩ := (show e 14 = true ∧ e 12 = true ∧ e 12 = true ∧ e 0 = true ∧ e 1 = true ∧ e 2 = true ∧ e 3 = true ∧ e 4 = true ∧ e 5 = true ∧ e 6 = true ∧ e 7 = true ∧ e 8 = true ∧ e 9 = true ∧ e 10 = true ∧ e 11 = true ∧ e 12 = true ∧ True from hdn 15 q); obtain ⟨r13, -, -, -, -, -, -, -, -, -, -, -, -, -, -⟩ := (show e 13 = true ∧ e 0 = true ∧ e 1 = true ∧ e 2 = true ∧ e 3 = true ∧ e 4 = true ∧ e 5 = true ∧ e 6 = true ∧ e 7 = true ∧ e 8 = true ∧ e 9 = true ∧ e 10 = true ∧ e 11 = true ∧ e 12 = true ∧ True from hdn 14 r14); obtain ⟨r1, -, -, -, -, -, -, -, -, -, -, -, -, -, -, -⟩ := (show e 1 = true ∧ e 2 = true ∧ e 0 = true ∧ e 1 = true ∧ e 2 = true ∧ e 3 = true ∧ e 4 = true ∧ e 5 = true ∧ e 6 = true ∧ e 7 = true ∧ e 8 = true ∧ e 9 = true ∧ e 10 = true ∧ e 11 = true ∧ e 12 = true ∧ True from hdn 13 r13); exact r1
        cases hu12 : e 12
        ·simp only [setE, h0, he, h15, hu12, cj_t, cj_f, cjn_t, cjn_f, cb_t, cb_f]
         refine U (LdB (V rfl) rfl Ga22 (by decide)) <| Nt <| We ?_ ?_
         ·exact ⟨V rfl, V rfl, V rfl, V rfl, V rfl, V rfl, V rfl, V rfl, V rfl, V rfl, V rfl, V rfl, Vj, V rfl, V rfl, V rfl, V rfl, V rfl, V rfl, V rfl, Z⟩
         ·exact ⟨⟨_, rfl, ⟨rfl, rfl, (An rfl)⟩⟩, ⟨_, rfl, ⟨rfl, rfl, (An rfl)⟩⟩, ⟨_, rfl, rfl⟩, ⟨_, rfl, rfl⟩, Z⟩
        ·simp only [setE, h0, he, h15, hu12, cj_t, cj_f, cjn_t, cjn_f, cb_t, cb_f]
         refine U (LdB (V rfl) rfl Ga22 (by decide)) <| Nt <| We ?_ ?_
         ·exact ⟨V rfl, V rfl, V rfl, V rfl, V rfl, V rfl, V rfl, V rfl, V rfl, V rfl, V rfl, V rfl, V rfl, V rfl, V rfl, V rfl, V rfl, V rfl, V rfl, V rfl, Z⟩
         ·exact ⟨⟨_, rfl, ⟨rfl, rfl, (An rfl)⟩⟩, ⟨_, rfl, ⟨rfl, rfl, (An rfl)⟩⟩, ⟨_, rfl, rfl⟩, ⟨_, rfl, rfl⟩, Z⟩
       ·intro e hdn he hdp
        have h15 : e 15 = false := fls he fun q => by obtain ⟨r14, -, -, -, -, -, -, -, -, -, -, -, -, -, -, -, -⟩ := (show e 14 = true ∧ e 12 = true ∧ e 12 = true ∧ e 0 = true ∧ e 1 = true ∧ e 2 = true ∧ e 3 = true ∧ e 4 = true ∧ e 5 = true ∧ e 6 = true ∧ e 7 = true ∧ e 8 = true ∧ e 9 = true ∧ e 10 = true ∧ e 11 = true ∧ e 12 = true ∧ True from hdn 15 q); obtain ⟨r13, -, -, -, -, -, -, -, -, -, -, -, -, -, -⟩ := (show e 13 = true ∧ e 0 = true ∧ e 1 = true ∧ e 2 = true ∧ e 3 = true ∧ e 4 = true ∧ e 5 = true ∧ e 6 = true ∧ e 7 = true ∧ e 8 = true ∧ e 9 = true ∧ e 10 = true ∧ e 11 = true ∧ e 12 = true ∧ True from hdn 14 r14); obtain ⟨-, r2, -, -, -, -, -, -, -, -, -, -, -, -, -, -⟩ := (show e 1 = true ∧ e 2 = true ∧ e 0 = true ∧ e 1 = true ∧ e 2 = true ∧ e 3 = true ∧ e 4 = true ∧ e 5 = true ∧ e 6 = true ∧ e 7 = true ∧ e 8 = true ∧ e 9 = true ∧ e 10 = true ∧ e 11 = true ∧ e 12 = true ∧ True from hdn 13 r13); exact r2
        simp only [setE, he, h15, cj_t, cj_f, cjn_t, cjn_f, cb_t, cb_f]
        exact U (Mv (V rfl)) <| Nt <| weakS ⟨V rfl, V rfl, V rfl, V rfl, V rfl, V rfl, V rfl, V rfl, V rfl, V rfl, V rfl, V rfl, V rfl, V rfl, V rfl, V rfl, V rfl, V rfl, V rfl, V rfl, Z⟩
       ·intro e hdn he hdp
        have h12 : e 12 = false := fls he fun q => by obtain ⟨r8, -, -, -⟩ := (show e 8 = true ∧ e 9 = true ∧ e 11 = true ∧ True from hdn 12 q); obtain ⟨r7, -⟩ := (show e 7 = true ∧ True from hdn 8 r8); obtain ⟨r6, -⟩ := (show e 6 = true ∧ True from hdn 7 r7); obtain ⟨r4, -, -⟩ := (show e 4 = true ∧ e 5 = true ∧ True from hdn 6 r6); obtain ⟨r3, -⟩ := (show e 3 = true ∧ True from hdn 4 r4); exact r3
        have h15 : e 15 = false := fls he fun q => by obtain ⟨r14, -, -, -, -, -, -, -, -, -, -, -, -, -, -, -, -⟩ := (show e 14 = true ∧ e 12 = true ∧ e 12 = true ∧ e 0 = true ∧ e 1 = true ∧ e 2 = true ∧ e 3 = true ∧ e 4 = true ∧ e 5 = true ∧ e 6 = true ∧ e 7 = true ∧ e 8 = true ∧ e 9 = true ∧ e 10 = true ∧ e 11 = true ∧ e 12 = true ∧ True from hdn 15 q); obtain ⟨r13, -, -, -, -, -, -, -, -, -, -, -, -, -, -⟩ := (show e 13 = true ∧ e 0 = true ∧ e 1 = true ∧ e 2 = true ∧ e 3 = true ∧ e 4 = true ∧ e 5 = true ∧ e 6 = true ∧ e 7 = true ∧ e 8 = true ∧ e 9 = true ∧ e 10 = true ∧ e 11 = true ∧ e 12 = true ∧ True from hdn 14 r14); obtain ⟨-, -, -, -, -, -, -, -, -, -, -, -, -, -, r12, -⟩ := (show e 1 = true ∧ e 2 = true ∧ e 0 = true ∧ e 1 = true ∧ e 2 = true ∧ e 3 = true ∧ e 4 = true ∧ e 5 = true ∧ e 6 = true ∧ e 7 = true ∧ e 8 = true ∧ e 9 = true ∧ e 10 = true ∧ e 11 = true ∧ e 12 = true ∧ True from hdn 13 r13); obtain ⟨r8, -, -, -⟩ := (show e 8 = true ∧ e 9 = true ∧ e 11 = true ∧ True from hdn 12 r12); obtain ⟨r7, -⟩ := (show e 7 = true ∧ True from hdn 8 r8); obtain ⟨r6, -⟩ := (show e 6 = true ∧ True from hdn 7 r7); obtain ⟨r4, -, -⟩ := (show e 4 = true ∧ e 5 = true ∧ True from hdn 6 r6); obtain ⟨r3, -⟩ := (show e 3 = true ∧ True from hdn 4 r4); exact r3
        simp only [setE, he, h12, h15, cj_t, cj_f, cjn_t, cjn_f, cb_t, cb_f]
        refine U (FlB _ _ (V rfl) Un24 rfl 0 Sz22) <| Nt <| We ?_ ?_
        ·exact ⟨V rfl, V rfl, V rfl, V rfl, V rfl, V rfl, V rfl, V rfl, V rfl, V rfl, V rfl, V rfl, Vj, V rfl, V rfl, V rfl, V rfl, V rfl, V rfl, V rfl, Z⟩
        ·exact ⟨⟨_, rfl, ⟨rfl, rfl, (An rfl)⟩⟩, ⟨_, rfl, ⟨rfl, rfl, (An rfl)⟩⟩, ⟨_, rfl, rfl⟩, ⟨_, rfl, rfl⟩, Z⟩
       ·intro e hdn he hdp
        obtain ⟨h3, -⟩ := (show e 3 = true ∧ True from hdp)
        have h12 : e 12 = false := fls he fun q => by obtain ⟨r8, -, -, -⟩ := (show e 8 = true ∧ e 9 = true ∧ e 11 = true ∧ True from hdn 12 q); obtain ⟨r7, -⟩ := (show e 7 = true ∧ True from hdn 8 r8); obtain ⟨r6, -⟩ := (show e 6 = true ∧ True from hdn 7 r7); obtain ⟨r4, -, -⟩ := (show e 4 = true ∧ e 5 = true ∧ True from hdn 6 r6); exact r4
        have h15 : e 15 = false := fls he fun q => by obtain ⟨r14, -, -, -, -, -, -, -, -, -, -, -, -, -, -, -, -⟩ := (show e 14 = true ∧ e 12 = true ∧ e 12 = true ∧ e 0 = true ∧ e 1 = true ∧ e 2 = true ∧ e 3 = true ∧ e 4 = true ∧ e 5 = true ∧ e 6 = true ∧ e 7 = true ∧ e 8 = true ∧ e 9 = true ∧ e 10 = true ∧ e 11 = true ∧ e 12 = true ∧ True from hdn 15 q); obtain ⟨r13, -, -, -, -, -, -, -, -, -, -, -, -, -, -⟩ := (show e 13 = true ∧ e 0 = true ∧ e 1 = true ∧ e 2 = true ∧ e 3 = true ∧ e 4 = true ∧ e 5 = true ∧ e 6 = true ∧ e 7 = true ∧ e 8 = true ∧ e 9 = true ∧ e 10 = true ∧ e 11 = true ∧ e 12 = true ∧ True from hdn 14 r14); obtain ⟨-, -, -, -, -, -, -, -, -, -, -, -, -, -, r12, -⟩ := (show e 1 = true ∧ e 2 = true ∧ e 0 = true ∧ e 1 = true ∧ e 2 = true ∧ e 3 = true ∧ e 4 = true ∧ e 5 = true ∧ e 6 = true ∧ e 7 = true ∧ e 8 = true ∧ e 9 = true ∧ e 10 = true ∧ e 11 = true ∧ e 12 = true ∧ True from hdn 13 r13); obtain ⟨r8, -, -, -⟩ := (show e 8 = true ∧ e 9 = true ∧ e 11 = true ∧ True from hdn 12 r12); obtain ⟨r7, -⟩ := (show e 7 = true ∧ True from hdn 8 r8); obtain ⟨r6, -⟩ := (show e 6 = true ∧ True from hdn 7 r7); obtain ⟨r4, -, -⟩ := (show e 4 = true ∧ e 5 = true ∧ True from hdn 6 r6); exact r4
        simp only [setE, h3, he, h12, h15, cj_t, cj_f, cjn_t, cjn_f, cb_t, cb_f]
        refine U (LdB (V rfl) rfl Ga22 (by decide)) <| Nt <| We ?_ ?_
        ·exact ⟨V rfl, V rfl, V rfl, V rfl, V rfl, V rfl, V rfl, V rfl, V rfl, V rfl, V rfl, V rfl, Vj, V rfl, V rfl, V rfl, V rfl, V rfl, V rfl, V rfl, Z⟩
        ·exact ⟨⟨_, rfl, ⟨rfl, rfl, (An rfl)⟩⟩, ⟨_, rfl, ⟨rfl, rfl, (An rfl)⟩⟩, ⟨_, rfl, rfl⟩, ⟨_, rfl, rfl⟩, Z⟩
       ·intro e hdn he hdp
        have h12 : e 12 = false := fls he fun q => by obtain ⟨r8, -, -, -⟩ := (show e 8 = true ∧ e 9 = true ∧ e 11 = true ∧ True from hdn 12 q); obtain ⟨r7, -⟩ := (show e 7 = true ∧ True from hdn 8 r8); obtain ⟨r6, -⟩ := (show e 6 = true ∧ True from hdn 7 r7); obtain ⟨-, r5, -⟩ := (show e 4 = true ∧ e 5 = true ∧ True from hdn 6 r6); exact r5
        have h15 : e 15 = false := fls he fun q => by obtain ⟨r14, -, -, -, -, -, -, -, -, -, -, -, -, -, -, -, -⟩ := (show e 14 = true ∧ e 12 = true ∧ e 12 = true ∧ e 0 = true ∧ e 1 = true ∧ e 2 = true ∧ e 3 = true ∧ e 4 = true ∧ e 5 = true ∧ e 6 = true ∧ e 7 = true ∧ e 8 = true ∧ e 9 = true ∧ e 10 = true ∧ e 11 = true ∧ e 12 = true ∧ True from hdn 15 q); obtain ⟨r13, -, -, -, -, -, -, -, -, -, -, -, -, -, -⟩ := (show e 13 = true ∧ e 0 = true ∧ e 1 = true ∧ e 2 = true ∧ e 3 = true ∧ e 4 = true ∧ e 5 = true ∧ e 6 = true ∧ e 7 = true ∧ e 8 = true ∧ e 9 = true ∧ e 10 = true ∧ e 11 = true ∧ e 12 = true ∧ True from hdn 14 r14); obtain ⟨-, -, -, -, -, -, -, -, -, -, -, -, -, -, r12, -⟩ := (show e 1 = true ∧ e 2 = true ∧ e 0 = true ∧ e 1 = true ∧ e 2 = true ∧ e 3 = true ∧ e 4 = true ∧ e 5 = true ∧ e 6 = true ∧ e 7 = true ∧ e 8 = true ∧ e 9 = true ∧ e 10 = true ∧ e 11 = true ∧ e 12 = true ∧ True from hdn 13 r13); obtain ⟨r8, -, -, -⟩ := (show e 8 = true ∧ e 9 = true ∧ e 11 = true ∧ True from hdn 12 r12); obtain ⟨r7, -⟩ := (show e 7 = true ∧ True from hdn 8 r8); obtain ⟨r6, -⟩ := (show e 6 = true ∧ True from hdn 7 r7); obtain ⟨-, r5, -⟩ := (show e 4 = true ∧ e 5 = true ∧ True from hdn 6 r6); exact r5
        simp only [setE, he, h12, h15, cj_t, cj_f, cjn_t, cjn_f, cb_t, cb_f]
        refine U (Mv (V rfl)) <| Nt <| We ?_ ?_
        ·exact ⟨V rfl, V rfl, V rfl, V rfl, V rfl, V rfl, V rfl, V rfl, V rfl, V rfl, V rfl, V rfl, Vj, V rfl, V rfl, V rfl, V rfl, V rfl, V rfl, V rfl, Z⟩
        ·exact ⟨⟨_, rfl, ⟨rfl, rfl, (An rfl)⟩⟩, ⟨_, rfl, ⟨rfl, rfl, (An rfl)⟩⟩, ⟨_, rfl, rfl⟩, ⟨_, rfl, rfl⟩, Z⟩
       ·intro e hdn he hdp
        obtain ⟨h4, h5, -⟩ := (show e 4 = true ∧ e 5 = true ∧ True from hdp)
        obtain ⟨h3, -⟩ := (show e 3 = true ∧ True from hdn 4 h4)
        have h12 : e 12 = false := fls he fun q => by obtain ⟨r8, -, -, -⟩ := (show e 8 = true ∧ e 9 = true ∧ e 11 = true ∧ True from hdn 12 q); obtain ⟨r7, -⟩ := (show e 7 = true ∧ True from hdn 8 r8); obtain ⟨r6, -⟩ := (show e 6 = true ∧ True from hdn 7 r7); exact r6
        have h15 : e 15 = false := fls he fun q => by obtain ⟨r14, -, -, -, -, -, -, -, -, -, -, -, -, -, -, -, -⟩ := (show e 14 = true ∧ e 12 = true ∧ e 12 = true ∧ e 0 = true ∧ e 1 = true ∧ e 2 = true ∧ e 3 = true ∧ e 4 = true ∧ e 5 = true ∧ e 6 = true ∧ e 7 = true ∧ e 8 = true ∧ e 9 = true ∧ e 10 = true ∧ e 11 = true ∧ e 12 = true ∧ True from hdn 15 q); obtain ⟨r13, -, -, -, -, -, -, -, -, -, -, -, -, -, -⟩ := (show e 13 = true ∧ e 0 = true ∧ e 1 = true ∧ e 2 = true ∧ e 3 = true ∧ e 4 = true ∧ e 5 = true ∧ e 6 = true ∧ e 7 = true ∧ e 8 = true ∧ e 9 = true ∧ e 10 = true ∧ e 11 = true ∧ e 12 = true ∧ True from hdn 14 r14); obtain ⟨-, -, -, -, -, -, -, -, -, -, -, -, -, -, r12, -⟩ := (show e 1 = true ∧ e 2 = true ∧ e 0 = true ∧ e 1 = true ∧ e 2 = true ∧ e 3 = true ∧ e 4 = true ∧ e 5 = true ∧ e 6 = true ∧ e 7 = true ∧ e 8 = true ∧ e 9 = true ∧ e 10 = true ∧ e 11 = true ∧ e 12 = true ∧ True from hdn 13 r13); obtain ⟨r8, -, -, -⟩ := (show e 8 = true ∧ e 9 = true ∧ e 11 = true ∧ True from hdn 12 r12); obtain ⟨r7, -⟩ := (show e 7 = true ∧ True from hdn 8 r8); obtain ⟨r6, -⟩ := (show e 6 = true ∧ True from hdn 7 r7); exact r6
        simp only [setE, h3, h4, h5, he, h12, h15, cj_t, cj_f, cjn_t, cjn_f, cb_t, cb_f]
        refine U (q_idxU (V rfl) rfl (V rfl) ts22 te22 (by omega) (by first | omega | (simp only [List.length_set]; omega))) <| Nt <| We ?_ ?_
        ·exact ⟨V rfl, V rfl, V rfl, V rfl, V rfl, V rfl, V rfl, V rfl, V rfl, V rfl, V rfl, V rfl, Vj, V rfl, V rfl, V rfl, V rfl, V rfl, V rfl, V rfl, Z⟩
        ·exact ⟨⟨_, rfl, ⟨rfl, rfl, (An rfl)⟩⟩, ⟨_, rfl, ⟨rfl, rfl, (An rfl)⟩⟩, ⟨_, rfl, rfl⟩, ⟨_, rfl, rfl⟩, Z⟩
       ·intro e hdn he hdp
        obtain ⟨h6, -⟩ := (show e 6 = true ∧ True from hdp)
        obtain ⟨h4, h5, -⟩ := (show e 4 = true ∧ e 5 = true ∧ True from hdn 6 h6)
        obtain ⟨h3, -⟩ := (show e 3 = true ∧ True from hdn 4 h4)
        have h12 : e 12 = false := fls he fun q => by obtain ⟨r8, -, -, -⟩ := (show e 8 = true ∧ e 9 = true ∧ e 11 = true ∧ True from hdn 12 q); obtain ⟨r7, -⟩ := (show e 7 = true ∧ True from hdn 8 r8); exact r7
        have h15 : e 15 = false := fls he fun q => by obtain ⟨r14, -, -, -, -, -, -, -, -, -, -, -, -, -, -, -, -⟩ := (show e 14 = true ∧ e 12 = true ∧ e 12 = true ∧ e 0 = true ∧ e 1 = true ∧ e 2 = true ∧ e 3 = true ∧ e 4 = true ∧ e 5 = true ∧ e 6 = true ∧ e 7 = true ∧ e 8 = true ∧ e 9 = true ∧ e 10 = true ∧ e 11 = true ∧ e 12 = true ∧ True from hdn 15 q); obtain ⟨r13, -, -, -, -, -, -, -, -, -, -, -, -, -, -⟩ := (show e 13 = true ∧ e 0 = true ∧ e 1 = true ∧ e 2 = true ∧ e 3 = true ∧ e 4 = true ∧ e 5 = true ∧ e 6 = true ∧ e 7 = true ∧ e 8 = true ∧ e 9 = true ∧ e 10 = true ∧ e 11 = true ∧ e 12 = true ∧ True from hdn 14 r14); obtain ⟨-, -, -, -, -, -, -, -, -, -, -, -, -, -, r12, -⟩ := (show e 1 = true ∧ e 2 = true ∧ e 0 = true ∧ e 1 = true ∧ e 2 = true ∧ e 3 = true ∧ e 4 = true ∧ e 5 = true ∧ e 6 = true ∧ e 7 = true ∧ e 8 = true ∧ e 9 = true ∧ e 10 = true ∧ e 11 = true ∧ e 12 = true ∧ True from hdn 13 r13); obtain ⟨r8, -, -, -⟩ := (show e 8 = true ∧ e 9 = true ∧ e 11 = true ∧ True from hdn 12 r12); obtain ⟨r7, -⟩ := (show e 7 = true ∧ True from hdn 8 r8); exact r7
        simp only [setE, h3, h4, h5, h6, he, h12, h15, cj_t, cj_f, cjn_t, cjn_f, cb_t, cb_f]
        refine U (FlO _ _ (V rfl) Un61 rfl 0 Sz33) <| Nt <| We ?_ ?_
        ·exact ⟨V rfl, V rfl, V rfl, V rfl, V rfl, V rfl, V rfl, V rfl, V rfl, V rfl, V rfl, V rfl, Vj, V rfl, V rfl, V rfl, V rfl, V rfl, V rfl, V rfl, Z⟩
        ·exact ⟨⟨_, rfl, ⟨rfl, rfl, (An rfl)⟩⟩, ⟨_, rfl, ⟨rfl, rfl, (An rfl)⟩⟩, ⟨_, rfl, rfl⟩, ⟨_, rfl, rfl⟩, Z⟩
       ·intro e hdn he hdp
        obtain ⟨h7, -⟩ := (show e 7 = true ∧ True from hdp)
        obtain ⟨h6, -⟩ := (show e 6 = true ∧ True from hdn 7 h7)
        obtain ⟨h4, h5, -⟩ := (show e 4 = true ∧ e 5 = true ∧ True from hdn 6 h6)
        obtain ⟨h3, -⟩ := (show e 3 = true ∧ True from hdn 4 h4)
        have h12 : e 12 = false := fls he fun q => by obtain ⟨r8, -, -, -⟩ := (show e 8 = true ∧ e 9 = true ∧ e 11 = true ∧ True from hdn 12 q); exact r8
        have h15 : e 15 = false := fls he fun q => by obtain ⟨r14, -, -, -, -, -, -, -, -, -, -, -, -, -, -, -, -⟩ := (show e 14 = true ∧ e 12 = true ∧ e 12 = true ∧ e 0 = true ∧ e 1 = true ∧ e 2 = true ∧ e 3 = true ∧ e 4 = true ∧ e 5 = true ∧ e 6 = true ∧ e 7 = true ∧ e 8 = true ∧ e 9 = true ∧ e 10 = true ∧ e 11 = true ∧ e 12 = true ∧ True from hdn 15 q); obtain ⟨r13, -, -, -, -, -, -, -, -, -, -, -, -, -, -⟩ := (show e 13 = true ∧ e 0 = true ∧ e 1 = true ∧ e 2 = true ∧ e 3 = true ∧ e 4 = true ∧ e 5 = true ∧ e 6 = true ∧ e 7 = true ∧ e 8 = true ∧ e 9 = true ∧ e 10 = true ∧ e 11 = true ∧ e 12 = true ∧ True from hdn 14 r14); obtain ⟨-, -, -, -, -, -, -, -, -, -, -, -, -, -, r12, -⟩ := (show e 1 = true ∧ e 2 = true ∧ e 0 = true ∧ e 1 = true ∧ e 2 = true ∧ e 3 = true ∧ e 4 = true ∧ e 5 = true ∧ e 6 = true ∧ e 7 = true ∧ e 8 = true ∧ e 9 = true ∧ e 10 = true ∧ e 11 = true ∧ e 12 = true ∧ True from hdn 13 r13); obtain ⟨r8, -, -, -⟩ := (show e 8 = true ∧ e 9 = true ∧ e 11 = true ∧ True from hdn 12 r12); exact r8
        simp only [setE, h3, h4, h5, h6, h7, he, h12, h15, cj_t, cj_f, cjn_t, cjn_f, cb_t, cb_f]
        refine U (LdU (V rfl) rfl Ga33 (by decide) uat_hole) <| Nt <| We ?_ ?_
        ·exact ⟨V rfl, V rfl, V rfl, V rfl, V rfl, V rfl, V rfl, V rfl, V rfl, V rfl, V rfl, V rfl, Vj, V rfl, V rfl, V rfl, V rfl, V rfl, V rfl, V rfl, Z⟩
        ·exact ⟨⟨_, rfl, ⟨rfl, rfl, (An rfl)⟩⟩, ⟨_, rfl, ⟨rfl, rfl, (An rfl)⟩⟩, ⟨_, rfl, rfl⟩, ⟨_, rfl, rfl⟩, Z⟩
       ·intro e hdn he hdp
        have h12 : e 12 = false := fls he fun q => by obtain ⟨-, r9, -, -⟩ := (show e 8 = true ∧ e 9 = true ∧ e 11 = true ∧ True from hdn 12 q); exact r9
        have h15 : e 15 = false := fls he fun q => by obtain ⟨r14, -, -, -, -, -, -, -, -, -, -, -, -, -, -, -, -⟩ := (show e 14 = true ∧ e 12 = true ∧ e 12 = true ∧ e 0 = true ∧ e 1 = true ∧ e 2 = true ∧ e 3 = true ∧ e 4 = true ∧ e 5 = true ∧ e 6 = true ∧ e 7 = true ∧ e 8 = true ∧ e 9 = true ∧ e 10 = true ∧ e 11 = true ∧ e 12 = true ∧ True from hdn 15 q); obtain ⟨r13, -, -, -, -, -, -, -, -, -, -, -, -, -, -⟩ := (show e 13 = true ∧ e 0 = true ∧ e 1 = true ∧ e 2 = true ∧ e 3 = true ∧ e 4 = true ∧ e 5 = true ∧ e 6 = true ∧ e 7 = true ∧ e 8 = true ∧ e 9 = true ∧ e 10 = true ∧ e 11 = true ∧ e 12 = true ∧ True from hdn 14 r14); obtain ⟨-, -, -, -, -, -, -, -, -, -, -, -, -, -, r12, -⟩ := (show e 1 = true ∧ e 2 = true ∧ e 0 = true ∧ e 1 = true ∧ e 2 = true ∧ e 3 = true ∧ e 4 = true ∧ e 5 = true ∧ e 6 = true ∧ e 7 = true ∧ e 8 = true ∧ e 9 = true ∧ e 10 = true ∧ e 11 = true ∧ e 12 = true ∧ True from hdn 13 r13); obtain ⟨-, r9, -, -⟩ := (show e 8 = true ∧ e 9 = true ∧ e 11 = true ∧ True from hdn 12 r12); exact r9
        simp only [setE, he, h12, h15, cj_t, cj_f, cjn_t, cjn_f, cb_t, cb_f]
        refine U (Mv (V rfl)) <| Nt <| We ?_ ?_
        ·exact ⟨V rfl, V rfl, V rfl, V rfl, V rfl, V rfl, V rfl, V rfl, V rfl, V rfl, V rfl, V rfl, Vj, V rfl, V rfl, V rfl, V rfl, V rfl, V rfl, V rfl, Z⟩
        ·exact ⟨⟨_, rfl, ⟨rfl, rfl, (An rfl)⟩⟩, ⟨_, rfl, ⟨rfl, rfl, (An rfl)⟩⟩, ⟨_, rfl, rfl⟩, ⟨_, rfl, rfl⟩, Z⟩
       ·intro e hdn he hdp
        have h12 : e 12 = false := fls he fun q => by obtain ⟨-, -, r11, -⟩ := (show e 8 = true ∧ e 9 = true ∧ e 11 = true ∧ True from hdn 12 q); obtain ⟨r10, -⟩ := (show e 10 = true ∧ True from hdn 11 r11); exact r10
        have h15 : e 15 = false := fls he fun q => by obtain ⟨r14, -, -, -, -, -, -, -, -, -, -, -, -, -, -, -, -⟩ := (show e 14 = true ∧ e 12 = true ∧ e 12 = true ∧ e 0 = true ∧ e 1 = true ∧ e 2 = true ∧ e 3 = true ∧ e 4 = true ∧ e 5 = true ∧ e 6 = true ∧ e 7 = true ∧ e 8 = true ∧ e 9 = true ∧ e 10 = true ∧ e 11 = true ∧ e 12 = true ∧ True from hdn 15 q); obtain ⟨r13, -, -, -, -, -, -, -, -, -, -, -, -, -, -⟩ := (show e 13 = true ∧ e 0 = true ∧ e 1 = true ∧ e 2 = true ∧ e 3 = true ∧ e 4 = true ∧ e 5 = true ∧ e 6 = true ∧ e 7 = true ∧ e 8 = true ∧ e 9 = true ∧ e 10 = true ∧ e 11 = true ∧ e 12 = true ∧ True from hdn 14 r14); obtain ⟨-, -, -, -, -, -, -, -, -, -, -, -, -, -, r12, -⟩ := (show e 1 = true ∧ e 2 = true ∧ e 0 = true ∧ e 1 = true ∧ e 2 = true ∧ e 3 = true ∧ e 4 = true ∧ e 5 = true ∧ e 6 = true ∧ e 7 = true ∧ e 8 = true ∧ e 9 = true ∧ e 10 = true ∧ e 11 = true ∧ e 12 = true ∧ True from hdn 13 r13); obtain ⟨-, -, r11, -⟩ := (show e 8 = true ∧ e 9 = true ∧ e 11 = true ∧ True from hdn 12 r12); obtain ⟨r10, -⟩ := (show e 10 = true ∧ True from hdn 11 r11); exact r10
        simp only [setE, he, h12, h15, cj_t, cj_f, cjn_t, cjn_f, cb_t, cb_f]
        refine U (Mv (V rfl)) <| Nt <| We ?_ ?_
        ·exact ⟨V rfl, V rfl, V rfl, V rfl, V rfl, V rfl, V rfl, V rfl, V rfl, V rfl, V rfl, V rfl, Vj, V rfl, V rfl, V rfl, V rfl, V rfl, V rfl, V rfl, Z⟩
        ·exact ⟨⟨_, rfl, ⟨rfl, rfl, (An rfl)⟩⟩, ⟨_, rfl, ⟨rfl, rfl, (An rfl)⟩⟩, ⟨_, rfl, rfl⟩, ⟨_, rfl, rfl⟩, Z⟩
       ·intro e hdn he hdp
        obtain ⟨h10, -⟩ := (show e 10 = true ∧ True from hdp)
        have h12 : e 12 = false := fls he fun q => by obtain ⟨-, -, r11, -⟩ := (show e 8 = true ∧ e 9 = true ∧ e 11 = true ∧ True from hdn 12 q); exact r11
        have h15 : e 15 = false := fls he fun q => by obtain ⟨r14, -, -, -, -, -, -, -, -, -, -, -, -, -, -, -, -⟩ := (show e 14 = true ∧ e 12 = true ∧ e 12 = true ∧ e 0 = true ∧ e 1 = true ∧ e 2 = true ∧ e 3 = true ∧ e 4 = true ∧ e 5 = true ∧ e 6 = true ∧ e 7 = true ∧ e 8 = true ∧ e 9 = true ∧ e 10 = true ∧ e 11 = true ∧ e 12 = true ∧ True from hdn 15 q); obtain ⟨r13, -, -, -, -, -, -, -, -, -, -, -, -, -, -⟩ := (show e 13 = true ∧ e 0 = true ∧ e 1 = true ∧ e 2 = true ∧ e 3 = true ∧ e 4 = true ∧ e 5 = true ∧ e 6 = true ∧ e 7 = true ∧ e 8 = true ∧ e 9 = true ∧ e 10 = true ∧ e 11 = true ∧ e 12 = true ∧ True from hdn 14 r14); obtain ⟨-, -, -, -, -, -, -, -, -, -, -, -, -, -, r12, -⟩ := (show e 1 = true ∧ e 2 = true ∧ e 0 = true ∧ e 1 = true ∧ e 2 = true ∧ e 3 = true ∧ e 4 = true ∧ e 5 = true ∧ e 6 = true ∧ e 7 = true ∧ e 8 = true ∧ e 9 = true ∧ e 10 = true ∧ e 11 = true ∧ e 12 = true ∧ True from hdn 13 r13); obtain ⟨-, -, r11, -⟩ := (show e 8 = true ∧ e 9 = true ∧ e 11 = true ∧ True from hdn 12 r12); exact r11
        simp only [setE, h10, he, h12, h15, cj_t, cj_f, cjn_t, cjn_f, cb_t, cb_f]
        refine Uw (w_bs (n := 1) (zget := fun _ => iv 0) [(fun _ => iv (c.pl))] (rowG inCell 0 [c.pl]) Un33 Sz3 zero3 (by decide) rfl (by decide) ⟨⟨rfl, .inr ⟨rfl, (V rfl), rfl⟩, rfl⟩, Z⟩ ⟨Z, ⟨Z, rfl⟩⟩) <| Nt <| We ?_ ?_
        ·exact ⟨V rfl, V rfl, V rfl, V rfl, V rfl, V rfl, V rfl, V rfl, V rfl, V rfl, V rfl, V rfl, Vj, V rfl, V rfl, V rfl, V rfl, V rfl, V rfl, V rfl, Z⟩
        ·exact ⟨⟨_, rfl, ⟨rfl, rfl, (An rfl)⟩⟩, ⟨_, rfl, ⟨rfl, rfl, (An rfl)⟩⟩, ⟨_, rfl, rfl⟩, ⟨_, rfl, rfl⟩, Z⟩
       ·intro e hdn he hdp
        obtain ⟨h8, h9, h11, -⟩ := (show e 8 = true ∧ e 9 = true ∧ e 11 = true ∧ True from hdp)
        obtain ⟨h10, -⟩ := (show e 10 = true ∧ True from hdn 11 h11)
        obtain ⟨h7, -⟩ := (show e 7 = true ∧ True from hdn 8 h8)
        obtain ⟨h6, -⟩ := (show e 6 = true ∧ True from hdn 7 h7)
        obtain ⟨h4, h5, -⟩ := (show e 4 = true ∧ e 5 = true ∧ True from hdn 6 h6)
        obtain ⟨h3, -⟩ := (show e 3 = true ∧ True from hdn 4 h4)
        have h13 : e 13 = false := fls he fun q => by obtain ⟨-, -, -, -, -, -, -, -, -, -, -, -, -, -, r12, -⟩ := (show e 1 = true ∧ e 2 = true ∧ e 0 = true ∧ e 1 = true ∧ e 2 = true ∧ e 3 = true ∧ e 4 = true ∧ e 5 = true ∧ e 6 = true ∧ e 7 = true ∧ e 8 = true ∧ e 9 = true ∧ e 10 = true ∧ e 11 = true ∧ e 12 = true ∧ True from hdn 13 q); exact r12
        have h14 : e 14 = false := fls he fun q => by obtain ⟨r13, -, -, -, -, -, -, -, -, -, -, -, -, -, -⟩ := (show e 13 = true ∧ e 0 = true ∧ e 1 = true ∧ e 2 = true ∧ e 3 = true ∧ e 4 = true ∧ e 5 = true ∧ e 6 = true ∧ e 7 = true ∧ e 8 = true ∧ e 9 = true ∧ e 10 = true ∧ e 11 = true ∧ e 12 = true ∧ True from hdn 14 q); obtain ⟨-, -, -, -, -, -, -, -, -, -, -, -, -, -, r12, -⟩ := (show e 1 = true ∧ e 2 = true ∧ e 0 = true ∧ e 1 = true ∧ e 2 = true ∧ e 3 = true ∧ e 4 = true ∧ e 5 = true ∧ e 6 = true ∧ e 7 = true ∧ e 8 = true ∧ e 9 = true ∧ e 10 = true ∧ e 11 = true ∧ e 12 = true ∧ True from hdn 13 r13); exact r12
        have h15 : e 15 = false := fls he fun q => by obtain ⟨r14, -, -, -, -, -, -, -, -, -, -, -, -, -, -, -, -⟩ := (show e 14 = true ∧ e 12 = true ∧ e 12 = true ∧ e 0 = true ∧ e 1 = true ∧ e 2 = true ∧ e 3 = true ∧ e 4 = true ∧ e 5 = true ∧ e 6 = true ∧ e 7 = true ∧ e 8 = true ∧ e 9 = true ∧ e 10 = true ∧ e 11 = true ∧ e 12 = true ∧ True from hdn 15 q); obtain ⟨r13, -, -, -, -, -, -, -, -, -, -, -, -, -, -⟩ := (show e 13 = true ∧ e 0 = true ∧ e 1 = true ∧ e 2 = true ∧ e 3 = true ∧ e 4 = true ∧ e 5 = true ∧ e 6 = true ∧ e 7 = true ∧ e 8 = true ∧ e 9 = true ∧ e 10 = true ∧ e 11 = true ∧ e 12 = true ∧ True from hdn 14 r14); obtain ⟨-, -, -, -, -, -, -, -, -, -, -, -, -, -, r12, -⟩ := (show e 1 = true ∧ e 2 = true ∧ e 0 = true ∧ e 1 = true ∧ e 2 = true ∧ e 3 = true ∧ e 4 = true ∧ e 5 = true ∧ e 6 = true ∧ e 7 = true ∧ e 8 = true ∧ e 9 = true ∧ e 10 = true ∧ e 11 = true ∧ e 12 = true ∧ True from hdn 13 r13); exact r12
        simp only [setE, h3, h4, h5, h6, h7, h8, h9, h10, h11, he, h13, h14, h15, cj_t, cj_f, cjn_t, cjn_f, cb_t, cb_f]
        refine CM (cargs := [SV.own 1000, iv (((Nd.kids ((outSt l c.pl).getD (Int.toNat p.pl) default)).length : Int)), inRow ([c.pl])]) [(1000, 10)] [(0, 12)] en98 (by exact ⟨(V rfl), (V rfl), (V rfl), Z⟩) (ins_ct (Nd.kids ((outSt l c.pl).getD (Int.toNat p.pl) default)) ([c.pl]) ((Nd.kids ((outSt l c.pl).getD (Int.toNat p.pl) default)).length) (by first | omega | assumption) (by first | omega | (simp only [List.length_cons, List.length_nil]; omega) | assumption)) (by exact ⟨⟨_, rfl, rfl⟩, Z⟩) rfl (freshN_cons (fresh_mk ⟨(noId_cj rfl), (noId_cj rfl), (noId_cj rfl), rfl, rfl, rfl, rfl, rfl, rfl, rfl, rfl, rfl, rfl, rfl, rfl, rfl, rfl, rfl, rfl, rfl, Z⟩ rfl rfl) rfl rfl) rfl rfl <| Nt <| We ?_ ?_
        ·exact ⟨V rfl, V rfl, V rfl, V rfl, V rfl, V rfl, V rfl, V rfl, V rfl, V rfl, V rfl, V rfl, V rfl, Vj, Vj, V rfl, V rfl, V rfl, V rfl, V rfl, Z⟩
        ·exact ⟨⟨_, rfl, ⟨rfl, rfl, (An rfl)⟩⟩, ⟨_, rfl, ⟨rfl, rfl, (An rfl)⟩⟩, ⟨_, rfl, rfl⟩, ⟨_, rfl, rfl⟩, Z⟩
       ·intro e hdn he hdp
        obtain ⟨h1, h2, h0, -, -, h3, h4, h5, h6, h7, h8, h9, h10, h11, h12, -⟩ := (show e 1 = true ∧ e 2 = true ∧ e 0 = true ∧ e 1 = true ∧ e 2 = true ∧ e 3 = true ∧ e 4 = true ∧ e 5 = true ∧ e 6 = true ∧ e 7 = true ∧ e 8 = true ∧ e 9 = true ∧ e 10 = true ∧ e 11 = true ∧ e 12 = true ∧ True from hdp)
        have h15 : e 15 = false := fls he fun q => by obtain ⟨r14, -, -, -, -, -, -, -, -, -, -, -, -, -, -, -, -⟩ := (show e 14 = true ∧ e 12 = true ∧ e 12 = true ∧ e 0 = true ∧ e 1 = true ∧ e 2 = true ∧ e 3 = true ∧ e 4 = true ∧ e 5 = true ∧ e 6 = true ∧ e 7 = true ∧ e 8 = true ∧ e 9 = true ∧ e 10 = true ∧ e 11 = true ∧ e 12 = true ∧ True from hdn 15 q); obtain ⟨r13, -, -, -, -, -, -, -, -, -, -, -, -, -, -⟩ := (show e 13 = true ∧ e 0 = true ∧ e 1 = true ∧ e 2 = true ∧ e 3 = true ∧ e 4 = true ∧ e 5 = true ∧ e 6 = true ∧ e 7 = true ∧ e 8 = true ∧ e 9 = true ∧ e 10 = true ∧ e 11 = true ∧ e 12 = true ∧ True from hdn 14 r14); exact r13
        simp only [setE, h0, h1, h2, h3, h4, h5, h6, h7, h8, h9, h10, h11, h12, he, h15, cj_t, cj_f, cjn_t, cjn_f, cb_t, cb_f]
        refine U (q_idxU (V rfl) rfl (V rfl) ts22 te22 (by omega) (by first | omega | (simp only [List.length_set]; omega))) <| Nt <| We ?_ ?_
        ·exact ⟨V rfl, V rfl, V rfl, V rfl, V rfl, V rfl, V rfl, V rfl, V rfl, V rfl, V rfl, V rfl, V rfl, V rfl, V rfl, V rfl, V rfl, V rfl, V rfl, V rfl, Z⟩
        ·exact ⟨⟨_, rfl, ⟨rfl, rfl, (An rfl)⟩⟩, ⟨_, rfl, ⟨rfl, rfl, (An rfl)⟩⟩, ⟨_, rfl, rfl⟩, ⟨_, rfl, rfl⟩, Z⟩
       ·intro e hdn he hdp
        obtain ⟨h13, h0, h1, h2, h3, h4, h5, h6, h7, h8, h9, h10, h11, h12, -⟩ := (show e 13 = true ∧ e 0 = true ∧ e 1 = true ∧ e 2 = true ∧ e 3 = true ∧ e 4 = true ∧ e 5 = true ∧ e 6 = true ∧ e 7 = true ∧ e 8 = true ∧ e 9 = true ∧ e 10 = true ∧ e 11 = true ∧ e 12 = true ∧ True from hdp)
        have h15 : e 15 = false := fls he fun q => by obtain ⟨r14, -, -, -, -, -, -, -, -, -, -, -, -, -, -, -, -⟩ := (show e 14 = true ∧ e 12 = true ∧ e 12 = true ∧ e 0 = true ∧ e 1 = true ∧ e 2 = true ∧ e 3 = true ∧ e 4 = true ∧ e 5 = true ∧ e 6 = true ∧ e 7 = true ∧ e 8 = true ∧ e 9 = true ∧ e 10 = true ∧ e 11 = true ∧ e 12 = true ∧ True from hdn 15 q); exact r14
        simp only [setE, h0, h1, h2, h3, h4, h5, h6, h7, h8, h9, h10, h11, h12, h13, he, h15, cj_t, cj_f, cjn_t, cjn_f, cb_t, cb_f]
        refine U (FlO _ _ (V rfl) Un61 rfl 0 Sz33) <| Nt <| We ?_ ?_
        ·exact ⟨V rfl, V rfl, V rfl, V rfl, V rfl, V rfl, V rfl, V rfl, V rfl, V rfl, V rfl, V rfl, V rfl, V rfl, V rfl, V rfl, V rfl, V rfl, V rfl, V rfl, Z⟩
        ·exact ⟨⟨_, rfl, ⟨rfl, rfl, (An rfl)⟩⟩, ⟨_, rfl, ⟨rfl, rfl, (An rfl)⟩⟩, ⟨_, rfl, rfl⟩, ⟨_, rfl, rfl⟩, Z⟩
       ·intro e hdn he hdp
        obtain ⟨h14, h12, -, h0, h1, h2, h3, h4, h5, h6, h7, h8, h9, h10, h11, -, -⟩ := (show e 14 = true ∧ e 12 = true ∧ e 12 = true ∧ e 0 = true ∧ e 1 = true ∧ e 2 = true ∧ e 3 = true ∧ e 4 = true ∧ e 5 = true ∧ e 6 = true ∧ e 7 = true ∧ e 8 = true ∧ e 9 = true ∧ e 10 = true ∧ e 11 = true ∧ e 12 = true ∧ True from hdp)
        obtain ⟨h13, -, -, -, -, -, -, -, -, -, -, -, -, -, -⟩ := (show e 13 = true ∧ e 0 = true ∧ e 1 = true ∧ e 2 = true ∧ e 3 = true ∧ e 4 = true ∧ e 5 = true ∧ e 6 = true ∧ e 7 = true ∧ e 8 = true ∧ e 9 = true ∧ e 10 = true ∧ e 11 = true ∧ e 12 = true ∧ True from hdn 14 h14)
        simp only [setE, h0, h1, h2, h3, h4, h5, h6, h7, h8, h9, h10, h11, h12, h13, h14, he, cj_t, cj_f, cjn_t, cjn_f, cb_t, cb_f]
        refine t_stH (V rfl) rfl (V rfl) (one_own rfl) Sz33 (by decide) (.inl rfl) <| Nt <| We ?_ ?_
        ·exact ⟨V rfl, V rfl, V rfl, V rfl, V rfl, V rfl, V rfl, V rfl, V rfl, V rfl, V rfl, V rfl, V rfl, V rfl, V rfl, V rfl, V rfl, V rfl, V rfl, V rfl, Z⟩
        ·exact ⟨⟨_, rfl, ⟨rfl, rfl, (An rfl)⟩⟩, ⟨_, rfl, ⟨rfl, rfl, (An rfl)⟩⟩, ⟨_, rfl, rfl⟩, ⟨_, rfl, rfl⟩, Z⟩
       ·intro e he
        have h0 := he 0 (by decide)
        have h1 := he 1 (by decide)
        have h2 := he 2 (by decide)
        have h3 := he 3 (by decide)
        have h4 := he 4 (by decide)
        have h5 := he 5 (by decide)
        have h6 := he 6 (by decide)
        have h7 := he 7 (by decide)
        have h8 := he 8 (by decide)
        have h9 := he 9 (by decide)
        have h10 := he 10 (by decide)
        have h11 := he 11 (by decide)
        have h12 := he 12 (by decide)
        have h13 := he 13 (by decide)
        have h14 := he 14 (by decide)
        have h15 := he 15 (by decide)
        show Weak _ ⟨[(102, cj (e 0) (SV.bp 1 0)), (103, cj (e 1) (SV.own 9)), (104, cj (e 2) (iv (p.pl))), (105, cj (e 3) (SV.bp 1 0)), (106, cj (e 4) (SV.own 9)), (107, cj (e 5) (iv (p.pl))), (108, cj (e 6) (SV.oe 9 8 (Int.toNat p.pl) 0)), (109, cj (e 7) (SV.oe 9 8 (Int.toNat p.pl) 5)), (110, cj (e 8) (SV.own 10)), (111, cj (e 9) (iv (((Nd.kids ((outSt l c.pl).getD (Int.toNat p.pl) default)).length : Int)))), (112, cj (e 10) (iv (c.pl))), (113, cj (e 11) (inRow ([c.pl]))), (114, cj (e 12) (SV.own 12)), (115, cj (e 13) (SV.oe 9 8 (Int.toNat p.pl) 0)), (116, cj (e 14) (SV.oe 9 8 (Int.toNat p.pl) 5)), (4, SV.bp 1 0), (8, SV.bp 4 0), (11, iv (p.pl)), (12, iv (c.pl)), (13, iv (((Nd.kids ((outSt l c.pl).getD (Int.toNat p.pl) default)).length : Int)))], (cb (e 12) (cb (e 15) [(1, Own.box 1 (fun zt => SV.renm (rn [(1000, 1), (1001, 8), (0, 9)]) ((cmpG [SV.own 0]) zt)) 24), (4, Own.box 1 (cmpG [SV.v (Value.slice none 0 0)]) 24), (9, urowOf ndCell 8 default (outSt l c.pl) 61 5 Nd.kids inCell 1 0 3 l.length (some (Int.toNat p.pl, SV.own 12))), (12, ownOf inCell 1 0 ((Nd.kids ((outSt l c.pl).getD (Int.toNat p.pl) default)).take ((Nd.kids ((outSt l c.pl).getD (Int.toNat p.pl) default)).length) ++ ([c.pl]) ++ (Nd.kids ((outSt l c.pl).getD (Int.toNat p.pl) default)).drop ((Nd.kids ((outSt l c.pl).getD (Int.toNat p.pl) default)).length)) 3)] [(1, Own.box 1 (fun zt => SV.renm (rn [(1000, 1), (1001, 8), (0, 9)]) ((cmpG [SV.own 0]) zt)) 24), (4, Own.box 1 (cmpG [SV.v (Value.slice none 0 0)]) 24), (9, urowOf ndCell 8 default (outSt l c.pl) 61 5 Nd.kids inCell 1 0 3 l.length (some (Int.toNat p.pl, SV.own 10))), (12, ownOf inCell 1 0 ((Nd.kids ((outSt l c.pl).getD (Int.toNat p.pl) default)).take ((Nd.kids ((outSt l c.pl).getD (Int.toNat p.pl) default)).length) ++ ([c.pl]) ++ (Nd.kids ((outSt l c.pl).getD (Int.toNat p.pl) default)).drop ((Nd.kids ((outSt l c.pl).getD (Int.toNat p.pl) default)).length)) 3)]) (cb (e 15) [] [(1, Own.box 1 (fun zt => SV.renm (rn [(1000, 1), (1001, 8), (0, 9)]) ((cmpG [SV.own 0]) zt)) 24), (4, Own.box 1 (cmpG [SV.v (Value.slice none 0 0)]) 24), (9, urowOf ndCell 8 default (outSt l c.pl) 61 5 Nd.kids inCell 1 0 3 l.length (some (Int.toNat p.pl, SV.own 10))), (10, ownOf inCell 1 0 (Nd.kids ((outSt l c.pl).getD (Int.toNat p.pl) default)) 3)]))⟩ _
        simp only [h0, h1, h2, h3, h4, h5, h6, h7, h8, h9, h10, h11, h12, h13, h14, h15]
        show Weak _ ⟨[(102, SV.bp 1 0), (103, SV.own 9), (104, iv (p.pl)), (105, SV.bp 1 0), (106, SV.own 9), (107, iv (p.pl)), (108, SV.oe 9 8 (Int.toNat p.pl) 0), (109, SV.oe 9 8 (Int.toNat p.pl) 5), (110, SV.own 10), (111, iv (((Nd.kids ((outSt l c.pl).getD (Int.toNat p.pl) default)).length : Int))), (112, iv (c.pl)), (113, inRow ([c.pl])), (114, SV.own 12), (115, SV.oe 9 8 (Int.toNat p.pl) 0), (116, SV.oe 9 8 (Int.toNat p.pl) 5), (4, SV.bp 1 0), (8, SV.bp 4 0), (11, iv (p.pl)), (12, iv (c.pl)), (13, iv (((Nd.kids ((outSt l c.pl).getD (Int.toNat p.pl) default)).length : Int)))], [(1, Own.box 1 (fun zt => SV.renm (rn [(1000, 1), (1001, 8), (0, 9)]) ((cmpG [SV.own 0]) zt)) 24), (4, Own.box 1 (cmpG [SV.v (Value.slice none 0 0)]) 24), (9, urowOf ndCell 8 default (outSt l c.pl) 61 5 Nd.kids inCell 1 0 3 l.length (some (Int.toNat p.pl, SV.own 12))), (12, ownOf inCell 1 0 ((Nd.kids ((outSt l c.pl).getD (Int.toNat p.pl) default)).take ((Nd.kids ((outSt l c.pl).getD (Int.toNat p.pl) default)).length) ++ ([c.pl]) ++ (Nd.kids ((outSt l c.pl).getD (Int.toNat p.pl) default)).drop ((Nd.kids ((outSt l c.pl).getD (Int.toNat p.pl) default)).length)) 3)]⟩ _
        refine We ?_ ?_
        ·exact ⟨V rfl, V rfl, V rfl, V rfl, V rfl, V rfl, V rfl, V rfl, V rfl, V rfl, V rfl, V rfl, V rfl, V rfl, V rfl, V rfl, V rfl, V rfl, V rfl, V rfl, Z⟩
        ·exact ⟨⟨_, rfl, ⟨rfl, rfl, (An rfl)⟩⟩, ⟨_, rfl, ⟨rfl, rfl, (An rfl)⟩⟩, ⟨_, rfl, rfl⟩, ⟨_, rfl, rfl⟩, Z⟩
       exact Sq <| Tc (turn_joinT 9 (Int.toNat p.pl) 12 l.length ({ ((outSt l c.pl).getD (Int.toNat p.pl) default) with kids := (Nd.kids ((outSt l c.pl).getD (Int.toNat p.pl) default)).take ((Nd.kids ((outSt l c.pl).getD (Int.toNat p.pl) default)).length) ++ ([c.pl]) ++ (Nd.kids ((outSt l c.pl).getD (Int.toNat p.pl) default)).drop ((Nd.kids ((outSt l c.pl).getD (Int.toNat p.pl) default)).length) }) rfl rfl rfl (by first | omega | (simp only [List.length_set]; omega)) (by omega) (by rw [if_pos (by omega)]) rfl rfl (fun t ht hne => match t, ht, hne with | 0, _, _ => rfl | 1, _, _ => rfl | 2, _, _ => rfl | 3, _, _ => rfl | 4, _, _ => rfl | 5, _, hne => absurd rfl hne | 6, _, _ => rfl | 7, _, _ => rfl) rfl) <| Rt <| U (FlB _ _ (V rfl) Un24 rfl 0 Sz22) <| U (LdB (V rfl) rfl Ga22 (by decide)) <| U (Mv (V rfl)) <| U (Mv (V rfl)) <| U (q_idxU (V rfl) rfl (V rfl) ts22 te22 (by omega) (by first | omega | (simp only [List.length_set]; omega))) <| U (FlO _ _ (V rfl) Un61 rfl 0 Sz3) <| t_stUT ({ (((outSt l c.pl).set (Int.toNat p.pl) ({ ((outSt l c.pl).getD (Int.toNat p.pl) default) with kids := (Nd.kids ((outSt l c.pl).getD (Int.toNat p.pl) default)).take ((Nd.kids ((outSt l c.pl).getD (Int.toNat p.pl) default)).length) ++ ([c.pl]) ++ (Nd.kids ((outSt l c.pl).getD (Int.toNat p.pl) default)).drop ((Nd.kids ((outSt l c.pl).getD (Int.toNat p.pl) default)).length) })).getD (Int.toNat c.pl) default) with par := p.pl }) (V rfl) rfl (V rfl) rfl rfl Sz3 (by decide) (by decide) (by first | omega | (simp only [List.length_set]; omega)) rfl (fun t ht hne => match t, ht, hne with | 0, _, _ => rfl | 1, _, _ => rfl | 2, _, _ => rfl | 3, _, _ => rfl | 4, _, hne => absurd rfl hne | 5, _, _ => rfl | 6, _, _ => rfl | 7, _, _ => rfl) rfl <| Nt <| Sq <| Rt <| U (LBA (V rfl) rfl Ga24 Sz24 (by decide)) <| StA (V rfl) rfl (V rfl) Sz24 <| U (As K) <| Nt <| Tc (turn_uAT 9 rfl rfl (fun _ => rfl)) <| FzC 9 rfl <| Rx <| RR2 rfl (rv_aggI (g' := stG (((outSt l c.pl).set (Int.toNat p.pl) ({ ((outSt l c.pl).getD (Int.toNat p.pl) default) with kids := (Nd.kids ((outSt l c.pl).getD (Int.toNat p.pl) default)).take ((Nd.kids ((outSt l c.pl).getD (Int.toNat p.pl) default)).length) ++ ([c.pl]) ++ (Nd.kids ((outSt l c.pl).getD (Int.toNat p.pl) default)).drop ((Nd.kids ((outSt l c.pl).getD (Int.toNat p.pl) default)).length) })).set (Int.toNat c.pl) ({ (((outSt l c.pl).set (Int.toNat p.pl) ({ ((outSt l c.pl).getD (Int.toNat p.pl) default) with kids := (Nd.kids ((outSt l c.pl).getD (Int.toNat p.pl) default)).take ((Nd.kids ((outSt l c.pl).getD (Int.toNat p.pl) default)).length) ++ ([c.pl]) ++ (Nd.kids ((outSt l c.pl).getD (Int.toNat p.pl) default)).drop ((Nd.kids ((outSt l c.pl).getD (Int.toNat p.pl) default)).length) })).getD (Int.toNat c.pl) default) with par := p.pl }))) (rv_cell (V rfl) rfl Ga24 Sz24) ⟨Z, Ir⟩) (rv_tmp (V rfl)) rfl rfl (by show sv2 (SV.agg 1 (stG (((outSt l c.pl).set (Int.toNat p.pl) ({ ((outSt l c.pl).getD (Int.toNat p.pl) default) with kids := (Nd.kids ((outSt l c.pl).getD (Int.toNat p.pl) default)).take ((Nd.kids ((outSt l c.pl).getD (Int.toNat p.pl) default)).length) ++ ([c.pl]) ++ (Nd.kids ((outSt l c.pl).getD (Int.toNat p.pl) default)).drop ((Nd.kids ((outSt l c.pl).getD (Int.toNat p.pl) default)).length) })).set (Int.toNat c.pl) ({ (((outSt l c.pl).set (Int.toNat p.pl) ({ ((outSt l c.pl).getD (Int.toNat p.pl) default) with kids := (Nd.kids ((outSt l c.pl).getD (Int.toNat p.pl) default)).take ((Nd.kids ((outSt l c.pl).getD (Int.toNat p.pl) default)).length) ++ ([c.pl]) ++ (Nd.kids ((outSt l c.pl).getD (Int.toNat p.pl) default)).drop ((Nd.kids ((outSt l c.pl).getD (Int.toNat p.pl) default)).length) })).getD (Int.toNat c.pl) default) with par := p.pl })))) (iv (0)) = sv2 (SV.agg 1 (stG (insSt l p c ah).1)) (iv (insSt l p c ah).2); rw [ins_6 (by omega) hc2s hq3 hq4 hq5, insPos, if_neg (by omega)]; rfl)
end Go.Proofs.Ytmcdamcedemdiaa
namespace Go.Proofs.Ytmcdamcedemdiaa
open Go.RowKit Go.Eng
theorem zero113 : ZeroOk Try.prog 113 6 (cmpG [iv 0, iv 0, iv 0, iv 0, iv 0, iv 0]) := by
  refine ⟨.agg #[.int .i64 0, .int .i64 0, .int .i64 0, .int .i64 0, .int .i64 0, .int .i64 0], fun w => by kernel_rfl, rfl, fun t ht => ?_⟩
  match t, ht with
  | 0, _ => exact ⟨_, rfl, rfl, fun _ _ => rfl⟩
  | 1, _ => exact ⟨_, rfl, rfl, fun _ _ => rfl⟩
  | 2, _ => exact ⟨_, rfl, rfl, fun _ _ => rfl⟩
  | 3, _ => exact ⟨_, rfl, rfl, fun _ _ => rfl⟩
  | 4, _ => exact ⟨_, rfl, rfl, fun _ _ => rfl⟩
  | 5, _ => exact ⟨_, rfl, rfl, fun _ _ => rfl⟩
theorem ta113 : Try.prog.underlying 113 = some (.array (Try.prog.arrayLen 113) (Try.prog.elem 113)) := by kernel_rfl
theorem te113 : ∀ w, (sizeOf (Try.prog.elem 113)).run Try.prog w = .ok 2 w := fun w => by kernel_rfl
theorem al113 : Try.prog.arrayLen 113 = 3 := by kernel_rfl
def nz : Nd := ⟨false, 0, 0, 0, -1, [], -1, false⟩
def fam0 : List Nd := [nz, nz, nz, nz, nz, nz]
def fam1 : List Nd := [⟨true, 1, 0, 0, -1, [], -1, false⟩, nz, nz, nz, nz, nz]
def fam2 : List Nd := [⟨true, 1, 0, 0, -1, [], -1, false⟩, ⟨true, 1, 1, 0, -1, [], -1, false⟩, nz, nz, nz, nz]
def fam3 : List Nd := [⟨true, 1, 0, 0, -1, [], -1, false⟩, ⟨true, 1, 1, 0, -1, [], -1, false⟩, ⟨true, 1, 2, 0, -1, [], -1, false⟩, nz, nz, nz]
def fam4 : List Nd := [⟨true, 1, 0, 0, -1, [1], -1, false⟩, ⟨true, 1, 1, 0, 0, [], -1, false⟩, ⟨true, 1, 2, 0, -1, [], -1, false⟩, nz, nz, nz]
def fam5 : List Nd := [⟨true, 1, 0, 0, -1, [2, 1], -1, false⟩, ⟨true, 1, 1, 0, 0, [], -1, false⟩, ⟨true, 1, 2, 0, 0, [], -1, false⟩, nz, nz, nz]
def famS : Nat → List Nd
  | 0 => fam0 | 1 => fam1 | 2 => fam2 | _ => fam3
def famH : Nat → Nat → SV
  | 0 => cmpG [iv 0, iv 0, iv 0, iv 0, iv 0, iv 0]
  | 1 => cmpG [iv 0, iv 1, iv 0, iv 0, iv 0, iv 0]
  | 2 => cmpG [iv 0, iv 1, iv 1, iv 1, iv 0, iv 0]
  | _ => cmpG [iv 0, iv 1, iv 1, iv 1, iv 2, iv 1]
theorem fam_0 : newSt 6 = (fam0, 0) := by decide +kernel
theorem fam_1 : mkSt fam0 0 = (fam1, ⟨0, 1⟩, 0) := by decide +kernel
theorem fam_2 : mkSt fam1 1 = (fam2, ⟨1, 1⟩, 0) := by decide +kernel
theorem fam_3 : mkSt fam2 2 = (fam3, ⟨2, 1⟩, 0) := by decide +kernel
theorem fam_4 : insSt fam3 ⟨0, 1⟩ ⟨1, 1⟩ [] = (fam4, 0) := by decide +kernel
theorem fam_5 : insSt fam4 ⟨0, 1⟩ ⟨2, 1⟩ [⟨1, 1⟩] = (fam5, 0) := by decide +kernel
theorem fam_c0 : checkSt fam0 = 0 := by decide +kernel
theorem fam_c1 : checkSt fam1 = 0 := by decide +kernel
theorem fam_c2 : checkSt fam2 = 0 := by decide +kernel
theorem fam_c3 : checkSt fam3 = 0 := by decide +kernel
theorem fam_c4 : checkSt fam4 = 0 := by decide +kernel
theorem fam_c5 : checkSt fam5 = 0 := by decide +kernel
end Go.Proofs.Ytmcdamcedemdiaa
namespace Go.Proofs.Ytmcdamcedemdiaa
open Go.RowKit Go.Eng
theorem famN : Ct Try.prog 47 [iv 6] (sv2 (SV.agg 1 (stG fam0)) (iv 0)) := by
  have h := new_ct 6
  rw [fam_0] at h
  exact h
theorem famM0 : Ct Try.prog 40 [SV.agg 1 (stG fam0), iv 0] (sv3 (SV.agg 1 (stG fam1)) (SV.agg 2 (hdCell ⟨0, 1⟩)) (iv 0)) := by
  have h := make_ct fam0 0 (kb_of fam_c0)
  rw [fam_1] at h
  exact h
theorem famM1 : Ct Try.prog 40 [SV.agg 1 (stG fam1), iv 1] (sv3 (SV.agg 1 (stG fam2)) (SV.agg 2 (hdCell ⟨1, 1⟩)) (iv 0)) := by
  have h := make_ct fam1 1 (kb_of fam_c1)
  rw [fam_2] at h
  exact h
theorem famM2 : Ct Try.prog 40 [SV.agg 1 (stG fam2), iv 2] (sv3 (SV.agg 1 (stG fam3)) (SV.agg 2 (hdCell ⟨2, 1⟩)) (iv 0)) := by
  have h := make_ct fam2 2 (kb_of fam_c2)
  rw [fam_3] at h
  exact h
theorem famI4 : Ct Try.prog 56 [SV.agg 1 (stG fam3), SV.agg 2 (hdCell ⟨0, 1⟩), SV.agg 2 (hdCell ⟨1, 1⟩), hdRow []] (sv2 (SV.agg 1 (stG fam4)) (iv 0)) := by
  have h := insert_ct fam3 ⟨0, 1⟩ ⟨1, 1⟩ [] (kb_of fam_c3)
  rw [fam_4] at h
  exact h
theorem famI5 : Ct Try.prog 56 [SV.agg 1 (stG fam4), SV.agg 2 (hdCell ⟨0, 1⟩), SV.agg 2 (hdCell ⟨2, 1⟩), hdRow [⟨1, 1⟩]] (sv2 (SV.agg 1 (stG fam5)) (iv 0)) := by
  have h := insert_ct fam4 ⟨0, 1⟩ ⟨2, 1⟩ [⟨1, 1⟩] (kb_of fam_c4)
  rw [fam_5] at h
  exact h
theorem family_ct  : Ct Try.prog 103 [] (sv3 (SV.agg 1 (stG fam5)) (SV.agg 6 (cmpG [iv (0), iv (1), iv (1), iv (1), iv (2), iv (1)])) (bv (true))) := by
 refine CtO 69 Try.func103 rfl rfl rfl fun E => Sq <| Rt <| Al 1 zero24 rfl rfl <| Al 2 zero113 rfl rfl <| U (As K) <| Nt <| Sq <| Rt <| CT en47 (by exact ⟨⟨K, rfl⟩, Z⟩) (famN) <| U (Mv (V rfl)) <| U (Xt (V rfl) (by decide)) <| U (Xt (V rfl) (by decide)) <| Al 3 zero24 rfl rfl <| StA (V rfl) rfl (V rfl) Sz24 <| U (As (V rfl)) <| Nt <| Sq <| Rq <| O (Mv (V rfl)) <| O (Ql (V rfl) K) <| O (As (V rfl)) <| Nq <| Sq <| Rt <| Al 4 zero113 rfl rfl <| Nt <| Sq <| Sq <| Rq <| O (Mv K) <| Nq <| Bo <| Lo (fun (i : Nat) => ⟨[(0, SV.bp 1 0), (1, SV.bp 2 0), (3, SV.bp 3 0), (5, bv (true)), (6, SV.bp 4 0), (14, iv ((i : Int)))], [(1, Own.box 1 (cmpG [SV.v (Value.slice none 0 0)]) 24), (2, Own.box 6 (cmpG [iv (0), iv (0), iv (0), iv (0), iv (0), iv (0)]) 113), (3, Own.box 1 (stG (famS i)) 24), (4, Own.box 6 (famH i) 113)]⟩) (fun (i : Nat) => i ≤ 3) (fun (i : Nat) => 3 - i) 0 (by show 0 ≤ 3; decide) (We (sl := [(0, SV.bp 1 0), (1, SV.bp 2 0), (3, SV.bp 3 0), (5, bv (true)), (6, SV.bp 4 0), (14, iv (0))]) (ow := [(1, Own.box 1 (cmpG [SV.v (Value.slice none 0 0)]) 24), (2, Own.box 6 (cmpG [iv (0), iv (0), iv (0), iv (0), iv (0), iv (0)]) 113), (3, Own.box 1 (stG (fam0)) 24), (4, Own.box 6 (famH 0) 113)]) (by exact ⟨V rfl, V rfl, V rfl, val_eq (V rfl) rfl, V rfl, V rfl, Z⟩) (by exact ⟨⟨_, rfl, rfl, rfl, (An rfl)⟩, ⟨_, rfl, rfl, rfl, (An rfl)⟩, ⟨_, rfl, rfl, rfl, (An rfl)⟩, ⟨_, rfl, rfl, rfl, (An rfl)⟩, Z⟩)) <| ?_
 ·rintro i hI1
  have hJ1 : i ≤ 3 := hI1
  rcases (show i = 0 ∨ i = 1 ∨ i = 2 ∨ i = 3 by omega) with rfl | rfl | rfl | rfl
  ·show C _ E _ ⟨[(0, SV.bp 1 0), (1, SV.bp 2 0), (3, SV.bp 3 0), (5, bv (true)), (6, SV.bp 4 0), (14, iv (0))], [(1, Own.box 1 (cmpG [SV.v (Value.slice none 0 0)]) 24), (2, Own.box 6 (cmpG [iv (0), iv (0), iv (0), iv (0), iv (0), iv (0)]) 113), (3, Own.box 1 (stG (fam0)) 24), (4, Own.box 6 (famH 0) 113)]⟩ _
   refine Sq <| Rq <| O (Lt (V rfl) K) <| Nq <| Sq <| Cd (V rfl) (fun hc1 => ?_) (fun hc1 => ?_)
   ·have hc1s := hc1; try simp only [BL] at hc1s
    exact Sk <| Sq <| Bo <| Sq <| Rq <| O (Mv (V rfl)) <| O (As (V rfl)) <| Nq <| Sq <| Rt <| U (Mv (V rfl)) <| U (LBA (V rfl) rfl Ga24 Sz24 (by decide)) <| U (Mv (V rfl)) <| CT en40 (by exact ⟨⟨(Vi (g' := stG fam0) (V rfl) ⟨Z, Ir⟩), rfl⟩, ⟨(V rfl), rfl⟩, Z⟩) (famM0) <| U (Mv (V rfl)) <| U (Xt (V rfl) (by decide)) <| U (Xt (V rfl) (by decide)) <| U (Xt (V rfl) (by decide)) <| StA (V rfl) rfl (V rfl) Sz24 <| U (q_ixB (i := 0) (V rfl) (V rfl) ta113 te113 (by rw [al113]; decide)) <| t_stP (fun zt => ([iv (0), iv (1), iv (0), iv (0), iv (0), iv (0)] : List SV).getD zt .junk) (V rfl) rfl (V rfl) Sz26 (by decide) (An rfl) <| U (As (V rfl)) <| Nt <| Rq <| O (Mv (V rfl)) <| O (Mv (V rfl)) <| Og (Gy rfl rfl) (fun hg => Mv (V rfl)) <| Og (Gy rfl rfl) (fun hg => Ql (Vg (V rfl) hg) K) <| O (Qa (V rfl) (fun h => Vg (V rfl) h)) <| O (As (V rfl)) <| Nq <| Rq <| O (Ad (V rfl) K (by omega)) <| O (Mv (V rfl)) <| Nq <| Nx (1) (by show 1 ≤ 3; decide) (by show 3 - 1 < 3 - 0; decide) (We (sl := [(0, SV.bp 1 0), (1, SV.bp 2 0), (3, SV.bp 3 0), (5, bv (true)), (6, SV.bp 4 0), (14, iv (1))]) (ow := [(1, Own.box 1 (cmpG [SV.v (Value.slice none 0 0)]) 24), (2, Own.box 6 (cmpG [iv (0), iv (0), iv (0), iv (0), iv (0), iv (0)]) 113), (3, Own.box 1 (stG (fam1)) 24), (4, Own.box 6 (famH 1) 113)]) (by exact ⟨V rfl, V rfl, V rfl, val_eq (V rfl) rfl, V rfl, V rfl, Z⟩) (by exact ⟨⟨_, rfl, rfl, rfl, (An rfl)⟩, ⟨_, rfl, rfl, rfl, (An rfl)⟩, ⟨_, rfl, rfl, rfl, (An rfl)⟩, ⟨_, rfl, rfl, rfl, (An rfl)⟩, Z⟩))
   ·exact absurd hc1 (by decide)
  ·show C _ E _ ⟨[(0, SV.bp 1 0), (1, SV.bp 2 0), (3, SV.bp 3 0), (5, bv (true)), (6, SV.bp 4 0), (14, iv (1))], [(1, Own.box 1 (cmpG [SV.v (Value.slice none 0 0)]) 24), (2, Own.box 6 (cmpG [iv (0), iv (0), iv (0), iv (0), iv (0), iv (0)]) 113), (3, Own.box 1 (stG (fam1)) 24), (4, Own.box 6 (famH 1) 113)]⟩ _
   refine Sq <| Rq <| O (Lt (V rfl) K) <| Nq <| Sq <| Cd (V rfl) (fun hc2 => ?_) (fun hc2 => ?_)
   ·have hc2s := hc2; try simp only [BL] at hc2s
    exact Sk <| Sq <| Bo <| Sq <| Rq <| O (Mv (V rfl)) <| O (As (V rfl)) <| Nq <| Sq <| Rt <| U (Mv (V rfl)) <| U (LBA (V rfl) rfl Ga24 Sz24 (by decide)) <| U (Mv (V rfl)) <| CT en40 (by exact ⟨⟨(Vi (g' := stG fam1) (V rfl) ⟨Z, Ir⟩), rfl⟩, ⟨(V rfl), rfl⟩, Z⟩) (famM1) <| U (Mv (V rfl)) <| U (Xt (V rfl) (by decide)) <| U (Xt (V rfl) (by decide)) <| U (Xt (V rfl) (by decide)) <| StA (V rfl) rfl (V rfl) Sz24 <| U (q_ixB (i := 1) (V rfl) (V rfl) ta113 te113 (by rw [al113]; decide)) <| t_stP (fun zt => ([iv (0), iv (1), iv (1), iv (1), iv (0), iv (0)] : List SV).getD zt .junk) (V rfl) rfl (V rfl) Sz26 (by decide) (An rfl) <| U (As (V rfl)) <| Nt <| Rq <| O (Mv (V rfl)) <| O (Mv (V rfl)) <| Og (Gy rfl rfl) (fun hg => Mv (V rfl)) <| Og (Gy rfl rfl) (fun hg => Ql (Vg (V rfl) hg) K) <| O (Qa (V rfl) (fun h => Vg (V rfl) h)) <| O (As (V rfl)) <| Nq <| Rq <| O (Ad (V rfl) K (by omega)) <| O (Mv (V rfl)) <| Nq <| Nx (2) (by show 2 ≤ 3; decide) (by show 3 - 2 < 3 - 1; decide) (We (sl := [(0, SV.bp 1 0), (1, SV.bp 2 0), (3, SV.bp 3 0), (5, bv (true)), (6, SV.bp 4 0), (14, iv (2))]) (ow := [(1, Own.box 1 (cmpG [SV.v (Value.slice none 0 0)]) 24), (2, Own.box 6 (cmpG [iv (0), iv (0), iv (0), iv (0), iv (0), iv (0)]) 113), (3, Own.box 1 (stG (fam2)) 24), (4, Own.box 6 (famH 2) 113)]) (by exact ⟨V rfl, V rfl, V rfl, val_eq (V rfl) rfl, V rfl, V rfl, Z⟩) (by exact ⟨⟨_, rfl, rfl, rfl, (An rfl)⟩, ⟨_, rfl, rfl, rfl, (An rfl)⟩, ⟨_, rfl, rfl, rfl, (An rfl)⟩, ⟨_, rfl, rfl, rfl, (An rfl)⟩, Z⟩))
   ·exact absurd hc2 (by decide)
  ·show C _ E _ ⟨[(0, SV.bp 1 0), (1, SV.bp 2 0), (3, SV.bp 3 0), (5, bv (true)), (6, SV.bp 4 0), (14, iv (2))], [(1, Own.box 1 (cmpG [SV.v (Value.slice none 0 0)]) 24), (2, Own.box 6 (cmpG [iv (0), iv (0), iv (0), iv (0), iv (0), iv (0)]) 113), (3, Own.box 1 (stG (fam2)) 24), (4, Own.box 6 (famH 2) 113)]⟩ _
   refine Sq <| Rq <| O (Lt (V rfl) K) <| Nq <| Sq <| Cd (V rfl) (fun hc3 => ?_) (fun hc3 => ?_)
   ·have hc3s := hc3; try simp only [BL] at hc3s
    exact Sk <| Sq <| Bo <| Sq <| Rq <| O (Mv (V rfl)) <| O (As (V rfl)) <| Nq <| Sq <| Rt <| U (Mv (V rfl)) <| U (LBA (V rfl) rfl Ga24 Sz24 (by decide)) <| U (Mv (V rfl)) <| CT en40 (by exact ⟨⟨(Vi (g' := stG fam2) (V rfl) ⟨Z, Ir⟩), rfl⟩, ⟨(V rfl), rfl⟩, Z⟩) (famM2) <| U (Mv (V rfl)) <| U (Xt (V rfl) (by decide)) <| U (Xt (V rfl) (by decide)) <| U (Xt (V rfl) (by decide)) <| StA (V rfl) rfl (V rfl) Sz24 <| U (q_ixB (i := 2) (V rfl) (V rfl) ta113 te113 (by rw [al113]; decide)) <| t_stP (fun zt => ([iv (0), iv (1), iv (1), iv (1), iv (2), iv (1)] : List SV).getD zt .junk) (V rfl) rfl (V rfl) Sz26 (by decide) (An rfl) <| U (As (V rfl)) <| Nt <| Rq <| O (Mv (V rfl)) <| O (Mv (V rfl)) <| Og (Gy rfl rfl) (fun hg => Mv (V rfl)) <| Og (Gy rfl rfl) (fun hg => Ql (Vg (V rfl) hg) K) <| O (Qa (V rfl) (fun h => Vg (V rfl) h)) <| O (As (V rfl)) <| Nq <| Rq <| O (Ad (V rfl) K (by omega)) <| O (Mv (V rfl)) <| Nq <| Nx (3) (by show 3 ≤ 3; decide) (by show 3 - 3 < 3 - 2; decide) (We (sl := [(0, SV.bp 1 0), (1, SV.bp 2 0), (3, SV.bp 3 0), (5, bv (true)), (6, SV.bp 4 0), (14, iv (3))]) (ow := [(1, Own.box 1 (cmpG [SV.v (Value.slice none 0 0)]) 24), (2, Own.box 6 (cmpG [iv (0), iv (0), iv (0), iv (0), iv (0), iv (0)]) 113), (3, Own.box 1 (stG (fam3)) 24), (4, Own.box 6 (famH 3) 113)]) (by exact ⟨V rfl, V rfl, V rfl, val_eq (V rfl) rfl, V rfl, V rfl, Z⟩) (by exact ⟨⟨_, rfl, rfl, rfl, (An rfl)⟩, ⟨_, rfl, rfl, rfl, (An rfl)⟩, ⟨_, rfl, rfl, rfl, (An rfl)⟩, ⟨_, rfl, rfl, rfl, (An rfl)⟩, Z⟩))
   ·exact absurd hc3 (by decide)
  ·show C _ E _ ⟨[(0, SV.bp 1 0), (1, SV.bp 2 0), (3, SV.bp 3 0), (5, bv (true)), (6, SV.bp 4 0), (14, iv (3))], [(1, Own.box 1 (cmpG [SV.v (Value.slice none 0 0)]) 24), (2, Own.box 6 (cmpG [iv (0), iv (0), iv (0), iv (0), iv (0), iv (0)]) 113), (3, Own.box 1 (stG (fam3)) 24), (4, Own.box 6 (famH 3) 113)]⟩ _
   refine Sq <| Rq <| O (Lt (V rfl) K) <| Nq <| Sq <| Cd (V rfl) (fun hc4 => ?_) (fun hc4 => ?_)
   ·exact absurd hc4 (by decide)
   ·have hc4s := hc4; try simp only [BL] at hc4s
    refine Ex <| Sq <| Rt <| U (LBA (V rfl) rfl Ga24 Sz24 (by decide)) <| U (q_ixB (i := 0) (V rfl) K ta113 te113 (by rw [al113]; decide)) <| U (LBA (V rfl) rfl Ga26 Sz26 (by decide)) <| U (q_ixB (i := 1) (V rfl) K ta113 te113 (by rw [al113]; decide)) <| U (LBA (V rfl) rfl Ga26 Sz26 (by decide)) <| CT en56 (by exact ⟨⟨(Vi (g' := stG fam3) (V rfl) ⟨Z, Ir⟩), rfl⟩, ⟨(Vi (g' := hdCell ⟨0, 1⟩) (V rfl) ⟨⟨Z, Ir⟩, Ir⟩), rfl⟩, ⟨(Vi (g' := hdCell ⟨1, 1⟩) (V rfl) ⟨⟨Z, Ir⟩, Ir⟩), rfl⟩, ⟨Vn, rfl⟩, Z⟩) (famI4) <| U (Mv (V rfl)) <| U (Xt (V rfl) (by decide)) <| U (Xt (V rfl) (by decide)) <| StA (V rfl) rfl (V rfl) Sz24 <| U (As (V rfl)) <| Nt <| Sq <| Rq <| O (Mv (V rfl)) <| O (Mv (V rfl)) <| Og (Gy rfl rfl) (fun hg => Mv (V rfl)) <| Og (Gy rfl rfl) (fun hg => Ql (Vg (V rfl) hg) K) <| O (Qa (V rfl) (fun h => Vg (V rfl) h)) <| O (As (V rfl)) <| Nq <| Sq <| c_frzB 4 [iv (0), iv (1), iv (1), iv (1), iv (2), iv (1)] rfl rfl ⟨⟨⟨⟨⟨⟨Z, rfl⟩, rfl⟩, rfl⟩, rfl⟩, rfl⟩, rfl⟩ rfl <| c_rd (fun e => ⟨[(47, cj (e 0) (SV.agg 1 (fun zi => (stG fam4) (0 + zi)))), (48, cj (e 1) (elB [iv (0), iv (1), iv (1), iv (1), iv (2), iv (1)] 0)), (49, cj (e 2) (SV.agg 2 (fun zi => (fun zt => ([iv (0), iv (1), iv (1), iv (1), iv (2), iv (1)] : List SV).getD zt .junk) (0 + zi)))), (50, cj (e 3) (elB [iv (0), iv (1), iv (1), iv (1), iv (2), iv (1)] 4)), (51, cj (e 4) (SV.agg 2 (fun zi => (fun zt => ([iv (0), iv (1), iv (1), iv (1), iv (2), iv (1)] : List SV).getD zt .junk) (4 + zi)))), (52, cj (e 5) (hdRow ([⟨1, 1⟩]))), (53, cj (e 6) (sv2 (SV.agg 1 (stG fam5)) (iv (0)))), (46, cj (e 7) (sv2 (SV.agg 1 (stG fam5)) (iv (0)))), (54, cj (e 8) (SV.agg 1 (stG fam5))), (55, cj (e 9) (iv (0))), (4, cj (e 11) (iv (0))), (0, SV.bp 1 0), (1, SV.bp 2 0), (3, SV.bp 3 0), (5, bv (true && (decide ((0 : Int) = 0)))), (6, elB [iv (0), iv (1), iv (1), iv (1), iv (2), iv (1)] 0)], (cb (e 10) [(1, Own.box 1 (cmpG [SV.v (Value.slice none 0 0)]) 24), (2, Own.box 6 (cmpG [iv (0), iv (0), iv (0), iv (0), iv (0), iv (0)]) 113), (3, Own.box 1 (stG fam5) 24)] [(1, Own.box 1 (cmpG [SV.v (Value.slice none 0 0)]) 24), (2, Own.box 6 (cmpG [iv (0), iv (0), iv (0), iv (0), iv (0), iv (0)]) 113), (3, Own.box 1 (stG fam4) 24)])⟩) ⟨[(47, SV.agg 1 (fun zi => (stG fam4) (0 + zi))), (48, elB [iv (0), iv (1), iv (1), iv (1), iv (2), iv (1)] 0), (49, SV.agg 2 (fun zi => (fun zt => ([iv (0), iv (1), iv (1), iv (1), iv (2), iv (1)] : List SV).getD zt .junk) (0 + zi))), (50, elB [iv (0), iv (1), iv (1), iv (1), iv (2), iv (1)] 4), (51, SV.agg 2 (fun zi => (fun zt => ([iv (0), iv (1), iv (1), iv (1), iv (2), iv (1)] : List SV).getD zt .junk) (4 + zi))), (52, hdRow ([⟨1, 1⟩])), (53, sv2 (SV.agg 1 (stG fam5)) (iv (0))), (46, sv2 (SV.agg 1 (stG fam5)) (iv (0))), (54, SV.agg 1 (stG fam5)), (55, iv (0)), (4, iv (0)), (0, SV.bp 1 0), (1, SV.bp 2 0), (3, SV.bp 3 0), (5, bv (true && (decide ((0 : Int) = 0)))), (6, elB [iv (0), iv (1), iv (1), iv (1), iv (2), iv (1)] 0)], [(1, Own.box 1 (cmpG [SV.v (Value.slice none 0 0)]) 24), (2, Own.box 6 (cmpG [iv (0), iv (0), iv (0), iv (0), iv (0), iv (0)]) 113), (3, Own.box 1 (stG fam5) 24)]⟩ (by kernel_rfl) (by kernel_rfl) ?_ ⟨?_, ?_, ?_, ?_, ?_, ?_, ?_, ?_, ?_, ?_, ?_, ?_, Z⟩ ?_ ?_
    ·show Weak _ _ ⟨[(47, SV.junk), (48, SV.junk), (49, SV.junk), (50, SV.junk), (51, SV.junk), (52, SV.junk), (53, SV.junk), (46, SV.junk), (54, SV.junk), (55, SV.junk), (4, SV.junk), (0, SV.bp 1 0), (1, SV.bp 2 0), (3, SV.bp 3 0), (5, bv (true && (decide ((0 : Int) = 0)))), (6, elB [iv (0), iv (1), iv (1), iv (1), iv (2), iv (1)] 0)], [(1, Own.box 1 (cmpG [SV.v (Value.slice none 0 0)]) 24), (2, Own.box 6 (cmpG [iv (0), iv (0), iv (0), iv (0), iv (0), iv (0)]) 113), (3, Own.box 1 (stG fam4) 24)]⟩
     refine We ?_ ?_
     ·exact ⟨Vj, Vj, Vj, Vj, Vj, Vj, Vj, Vj, Vj, Vj, Vj, V rfl, V rfl, V rfl, V rfl, V rfl, Z⟩
     ·exact ⟨⟨_, rfl, ⟨rfl, rfl, (An rfl)⟩⟩, ⟨_, rfl, ⟨rfl, rfl, (An rfl)⟩⟩, ⟨_, rfl, ⟨rfl, rfl, (An rfl)⟩⟩, Z⟩
    ·intro e hdn he hdp
     have h10 : e 10 = false := fls he fun q => by obtain ⟨r8, -, -, -, -, -, -, -, -, -, -, -⟩ := (show e 8 = true ∧ e 6 = true ∧ e 0 = true ∧ e 1 = true ∧ e 2 = true ∧ e 3 = true ∧ e 4 = true ∧ e 5 = true ∧ e 6 = true ∧ e 7 = true ∧ e 8 = true ∧ True from hdn 10 q); obtain ⟨r7, -⟩ := (show e 7 = true ∧ True from hdn 8 r8); obtain ⟨r6, -⟩ := (show e 6 = true ∧ True from hdn 7 r7); obtain ⟨r0, -, -, -, -⟩ := (show e 0 = true ∧ e 2 = true ∧ e 4 = true ∧ e 5 = true ∧ True from hdn 6 r6); exact r0
     simp only [setE, he, h10, cj_t, cj_f, cjn_t, cjn_f, cb_t, cb_f]
     refine U (LBA (V rfl) rfl Ga24 Sz24 (by decide)) <| Nt <| We ?_ ?_
     ·exact ⟨V rfl, V rfl, V rfl, V rfl, V rfl, V rfl, V rfl, V rfl, V rfl, V rfl, V rfl, V rfl, V rfl, V rfl, V rfl, V rfl, Z⟩
     ·exact ⟨⟨_, rfl, ⟨rfl, rfl, (An rfl)⟩⟩, ⟨_, rfl, ⟨rfl, rfl, (An rfl)⟩⟩, ⟨_, rfl, ⟨rfl, rfl, (An rfl)⟩⟩, Z⟩
    ·intro e hdn he hdp
     have h10 : e 10 = false := fls he fun q => by obtain ⟨r8, -, -, -, -, -, -, -, -, -, -, -⟩ := (show e 8 = true ∧ e 6 = true ∧ e 0 = true ∧ e 1 = true ∧ e 2 = true ∧ e 3 = true ∧ e 4 = true ∧ e 5 = true ∧ e 6 = true ∧ e 7 = true ∧ e 8 = true ∧ True from hdn 10 q); obtain ⟨r7, -⟩ := (show e 7 = true ∧ True from hdn 8 r8); obtain ⟨r6, -⟩ := (show e 6 = true ∧ True from hdn 7 r7); obtain ⟨-, r2, -, -, -⟩ := (show e 0 = true ∧ e 2 = true ∧ e 4 = true ∧ e 5 = true ∧ True from hdn 6 r6); obtain ⟨r1, -⟩ := (show e 1 = true ∧ True from hdn 2 r2); exact r1
     simp only [setE, he, h10, cj_t, cj_f, cjn_t, cjn_f, cb_t, cb_f]
     refine U (q_ixE (i := 0) (V rfl) K ta113 te113 (by rw [al113]; decide)) <| Nt <| We ?_ ?_
     ·exact ⟨V rfl, V rfl, V rfl, V rfl, V rfl, V rfl, V rfl, V rfl, V rfl, V rfl, V rfl, V rfl, V rfl, V rfl, V rfl, V rfl, Z⟩
     ·exact ⟨⟨_, rfl, ⟨rfl, rfl, (An rfl)⟩⟩, ⟨_, rfl, ⟨rfl, rfl, (An rfl)⟩⟩, ⟨_, rfl, ⟨rfl, rfl, (An rfl)⟩⟩, Z⟩
    ·intro e hdn he hdp
     obtain ⟨h1, -⟩ := (show e 1 = true ∧ True from hdp)
     have h10 : e 10 = false := fls he fun q => by obtain ⟨r8, -, -, -, -, -, -, -, -, -, -, -⟩ := (show e 8 = true ∧ e 6 = true ∧ e 0 = true ∧ e 1 = true ∧ e 2 = true ∧ e 3 = true ∧ e 4 = true ∧ e 5 = true ∧ e 6 = true ∧ e 7 = true ∧ e 8 = true ∧ True from hdn 10 q); obtain ⟨r7, -⟩ := (show e 7 = true ∧ True from hdn 8 r8); obtain ⟨r6, -⟩ := (show e 6 = true ∧ True from hdn 7 r7); obtain ⟨-, r2, -, -, -⟩ := (show e 0 = true ∧ e 2 = true ∧ e 4 = true ∧ e 5 = true ∧ True from hdn 6 r6); exact r2
     simp only [setE, h1, he, h10, cj_t, cj_f, cjn_t, cjn_f, cb_t, cb_f]
     refine U (LdA (V rfl) Ga26 Sz26 (by show 0 + 2 ≤ 6; decide)) <| Nt <| We ?_ ?_
     ·exact ⟨V rfl, V rfl, V rfl, V rfl, V rfl, V rfl, V rfl, V rfl, V rfl, V rfl, V rfl, V rfl, V rfl, V rfl, V rfl, V rfl, Z⟩
     ·exact ⟨⟨_, rfl, ⟨rfl, rfl, (An rfl)⟩⟩, ⟨_, rfl, ⟨rfl, rfl, (An rfl)⟩⟩, ⟨_, rfl, ⟨rfl, rfl, (An rfl)⟩⟩, Z⟩
    ·intro e hdn he hdp
     have h10 : e 10 = false := fls he fun q => by obtain ⟨r8, -, -, -, -, -, -, -, -, -, -, -⟩ := (show e 8 = true ∧ e 6 = true ∧ e 0 = true ∧ e 1 = true ∧ e 2 = true ∧ e 3 = true ∧ e 4 = true ∧ e 5 = true ∧ e 6 = true ∧ e 7 = true ∧ e 8 = true ∧ True from hdn 10 q); obtain ⟨r7, -⟩ := (show e 7 = true ∧ True from hdn 8 r8); obtain ⟨r6, -⟩ := (show e 6 = true ∧ True from hdn 7 r7); obtain ⟨-, -, r4, -, -⟩ := (show e 0 = true ∧ e 2 = true ∧ e 4 = true ∧ e 5 = true ∧ True from hdn 6 r6); obtain ⟨r3, -⟩ := (show e 3 = true ∧ True from hdn 4 r4); exact r3
     simp only [setE, he, h10, cj_t, cj_f, cjn_t, cjn_f, cb_t, cb_f]
     refine U (q_ixE (i := 2) (V rfl) K ta113 te113 (by rw [al113]; decide)) <| Nt <| We ?_ ?_
     ·exact ⟨V rfl, V rfl, V rfl, V rfl, V rfl, V rfl, V rfl, V rfl, V rfl, V rfl, V rfl, V rfl, V rfl, V rfl, V rfl, V rfl, Z⟩
     ·exact ⟨⟨_, rfl, ⟨rfl, rfl, (An rfl)⟩⟩, ⟨_, rfl, ⟨rfl, rfl, (An rfl)⟩⟩, ⟨_, rfl, ⟨rfl, rfl, (An rfl)⟩⟩, Z⟩
    ·intro e hdn he hdp
     obtain ⟨h3, -⟩ := (show e 3 = true ∧ True from hdp)
     have h10 : e 10 = false := fls he fun q => by obtain ⟨r8, -, -, -, -, -, -, -, -, -, -, -⟩ := (show e 8 = true ∧ e 6 = true ∧ e 0 = true ∧ e 1 = true ∧ e 2 = true ∧ e 3 = true ∧ e 4 = true ∧ e 5 = true ∧ e 6 = true ∧ e 7 = true ∧ e 8 = true ∧ True from hdn 10 q); obtain ⟨r7, -⟩ := (show e 7 = true ∧ True from hdn 8 r8); obtain ⟨r6, -⟩ := (show e 6 = true ∧ True from hdn 7 r7); obtain ⟨-, -, r4, -, -⟩ := (show e 0 = true ∧ e 2 = true ∧ e 4 = true ∧ e 5 = true ∧ True from hdn 6 r6); exact r4
     simp only [setE, h3, he, h10, cj_t, cj_f, cjn_t, cjn_f, cb_t, cb_f]
     refine U (LdA (V rfl) Ga26 Sz26 (by show 4 + 2 ≤ 6; decide)) <| Nt <| We ?_ ?_
     ·exact ⟨V rfl, V rfl, V rfl, V rfl, V rfl, V rfl, V rfl, V rfl, V rfl, V rfl, V rfl, V rfl, V rfl, V rfl, V rfl, V rfl, Z⟩
     ·exact ⟨⟨_, rfl, ⟨rfl, rfl, (An rfl)⟩⟩, ⟨_, rfl, ⟨rfl, rfl, (An rfl)⟩⟩, ⟨_, rfl, ⟨rfl, rfl, (An rfl)⟩⟩, Z⟩
    ·intro e hdn he hdp
     have h10 : e 10 = false := fls he fun q => by obtain ⟨r8, -, -, -, -, -, -, -, -, -, -, -⟩ := (show e 8 = true ∧ e 6 = true ∧ e 0 = true ∧ e 1 = true ∧ e 2 = true ∧ e 3 = true ∧ e 4 = true ∧ e 5 = true ∧ e 6 = true ∧ e 7 = true ∧ e 8 = true ∧ True from hdn 10 q); obtain ⟨r7, -⟩ := (show e 7 = true ∧ True from hdn 8 r8); obtain ⟨r6, -⟩ := (show e 6 = true ∧ True from hdn 7 r7); obtain ⟨-, -, -, r5, -⟩ := (show e 0 = true ∧ e 2 = true ∧ e 4 = true ∧ e 5 = true ∧ True from hdn 6 r6); exact r5
     simp only [setE, he, h10, cj_t, cj_f, cjn_t, cjn_f, cb_t, cb_f]
     refine U (q_slA (cell := hdCell) (d := default) (k := 2) (l := 1) (h := 2) [⟨1, 1⟩] ta113 te113 (V rfl) K K (by decide) (by rw [al113]; decide) (by rw [al113]; decide) (by rw [al113]; decide) rfl (fun i hi => match i, hi with | 0, _ => An rfl)) <| Nt <| We ?_ ?_
     ·exact ⟨V rfl, V rfl, V rfl, V rfl, V rfl, V rfl, V rfl, V rfl, V rfl, V rfl, V rfl, V rfl, V rfl, V rfl, V rfl, V rfl, Z⟩
     ·exact ⟨⟨_, rfl, ⟨rfl, rfl, (An rfl)⟩⟩, ⟨_, rfl, ⟨rfl, rfl, (An rfl)⟩⟩, ⟨_, rfl, ⟨rfl, rfl, (An rfl)⟩⟩, Z⟩
    ·intro e hdn he hdp
     obtain ⟨h0, h2, h4, h5, -⟩ := (show e 0 = true ∧ e 2 = true ∧ e 4 = true ∧ e 5 = true ∧ True from hdp)
     obtain ⟨h3, -⟩ := (show e 3 = true ∧ True from hdn 4 h4)
     obtain ⟨h1, -⟩ := (show e 1 = true ∧ True from hdn 2 h2)
     have h10 : e 10 = false := fls he fun q => by obtain ⟨r8, -, -, -, -, -, -, -, -, -, -, -⟩ := (show e 8 = true ∧ e 6 = true ∧ e 0 = true ∧ e 1 = true ∧ e 2 = true ∧ e 3 = true ∧ e 4 = true ∧ e 5 = true ∧ e 6 = true ∧ e 7 = true ∧ e 8 = true ∧ True from hdn 10 q); obtain ⟨r7, -⟩ := (show e 7 = true ∧ True from hdn 8 r8); obtain ⟨r6, -⟩ := (show e 6 = true ∧ True from hdn 7 r7); exact r6
     simp only [setE, h0, h1, h2, h3, h4, h5, he, h10, cj_t, cj_f, cjn_t, cjn_f, cb_t, cb_f]
     refine CT en56 (by exact ⟨⟨(Vi (g' := stG fam4) (V rfl) ⟨Z, Ir⟩), rfl⟩, ⟨(Vi (g' := hdCell ⟨0, 1⟩) (V rfl) ⟨⟨Z, Ir⟩, Ir⟩), rfl⟩, ⟨(Vi (g' := hdCell ⟨2, 1⟩) (V rfl) ⟨⟨Z, Ir⟩, Ir⟩), rfl⟩, ⟨(V rfl), rfl⟩, Z⟩) (famI5) <| Nt <| We ?_ ?_
     ·exact ⟨V rfl, V rfl, V rfl, V rfl, V rfl, V rfl, V rfl, V rfl, V rfl, V rfl, V rfl, V rfl, V rfl, V rfl, V rfl, V rfl, Z⟩
     ·exact ⟨⟨_, rfl, ⟨rfl, rfl, (An rfl)⟩⟩, ⟨_, rfl, ⟨rfl, rfl, (An rfl)⟩⟩, ⟨_, rfl, ⟨rfl, rfl, (An rfl)⟩⟩, Z⟩
    ·intro e hdn he hdp
     obtain ⟨h6, -⟩ := (show e 6 = true ∧ True from hdp)
     obtain ⟨h0, h2, h4, h5, -⟩ := (show e 0 = true ∧ e 2 = true ∧ e 4 = true ∧ e 5 = true ∧ True from hdn 6 h6)
     obtain ⟨h3, -⟩ := (show e 3 = true ∧ True from hdn 4 h4)
     obtain ⟨h1, -⟩ := (show e 1 = true ∧ True from hdn 2 h2)
     have h10 : e 10 = false := fls he fun q => by obtain ⟨r8, -, -, -, -, -, -, -, -, -, -, -⟩ := (show e 8 = true ∧ e 6 = true ∧ e 0 = true ∧ e 1 = true ∧ e 2 = true ∧ e 3 = true ∧ e 4 = true ∧ e 5 = true ∧ e 6 = true ∧ e 7 = true ∧ e 8 = true ∧ True from hdn 10 q); obtain ⟨r7, -⟩ := (show e 7 = true ∧ True from hdn 8 r8); exact r7
     simp only [setE, h0, h1, h2, h3, h4, h5, h6, he, h10, cj_t, cj_f, cjn_t, cjn_f, cb_t, cb_f]
     refine U (Mv (V rfl)) <| Nt <| We ?_ ?_
     ·exact ⟨V rfl, V rfl, V rfl, V rfl, V rfl, V rfl, V rfl, V rfl, V rfl, V rfl, V rfl, V rfl, V rfl, V rfl, V rfl, V rfl, Z⟩
     ·exact ⟨⟨_, rfl, ⟨rfl, rfl, (An rfl)⟩⟩, ⟨_, rfl, ⟨rfl, rfl, (An rfl)⟩⟩, ⟨_, rfl, ⟨rfl, rfl, (An rfl)⟩⟩, Z⟩
    ·intro e hdn he hdp
     obtain ⟨h7, -⟩ := (show e 7 = true ∧ True from hdp)
     obtain ⟨h6, -⟩ := (show e 6 = true ∧ True from hdn 7 h7)
     obtain ⟨h0, h2, h4, h5, -⟩ := (show e 0 = true ∧ e 2 = true ∧ e 4 = true ∧ e 5 = true ∧ True from hdn 6 h6)
     obtain ⟨h3, -⟩ := (show e 3 = true ∧ True from hdn 4 h4)
     obtain ⟨h1, -⟩ := (show e 1 = true ∧ True from hdn 2 h2)
     have h10 : e 10 = false := fls he fun q => by obtain ⟨r8, -, -, -, -, -, -, -, -, -, -, -⟩ := (show e 8 = true ∧ e 6 = true ∧ e 0 = true ∧ e 1 = true ∧ e 2 = true ∧ e 3 = true ∧ e 4 = true ∧ e 5 = true ∧ e 6 = true ∧ e 7 = true ∧ e 8 = true ∧ True from hdn 10 q); exact r8
     simp only [setE, h0, h1, h2, h3, h4, h5, h6, h7, he, h10, cj_t, cj_f, cjn_t, cjn_f, cb_t, cb_f]
     refine U (Xt (V rfl) (by decide)) <| Nt <| We ?_ ?_
     ·exact ⟨V rfl, V rfl, V rfl, V rfl, V rfl, V rfl, V rfl, V rfl, V rfl, V rfl, V rfl, V rfl, V rfl, V rfl, V rfl, V rfl, Z⟩
     ·exact ⟨⟨_, rfl, ⟨rfl, rfl, (An rfl)⟩⟩, ⟨_, rfl, ⟨rfl, rfl, (An rfl)⟩⟩, ⟨_, rfl, ⟨rfl, rfl, (An rfl)⟩⟩, Z⟩
    ·intro e hdn he hdp
     obtain ⟨h7, -⟩ := (show e 7 = true ∧ True from hdp)
     obtain ⟨h6, -⟩ := (show e 6 = true ∧ True from hdn 7 h7)
     obtain ⟨h0, h2, h4, h5, -⟩ := (show e 0 = true ∧ e 2 = true ∧ e 4 = true ∧ e 5 = true ∧ True from hdn 6 h6)
     obtain ⟨h3, -⟩ := (show e 3 = true ∧ True from hdn 4 h4)
     obtain ⟨h1, -⟩ := (show e 1 = true ∧ True from hdn 2 h2)
     simp only [setE, h0, h1, h2, h3, h4, h5, h6, h7, he, cj_t, cj_f, cjn_t, cjn_f, cb_t, cb_f]
     exact U (Xt (V rfl) (by decide)) <| Nt <| weakS ⟨V rfl, V rfl, V rfl, V rfl, V rfl, V rfl, V rfl, V rfl, V rfl, V rfl, V rfl, V rfl, V rfl, V rfl, V rfl, V rfl, Z⟩
    ·intro e hdn he hdp
     obtain ⟨h8, h6, h0, h1, h2, h3, h4, h5, -, h7, -, -⟩ := (show e 8 = true ∧ e 6 = true ∧ e 0 = true ∧ e 1 = true ∧ e 2 = true ∧ e 3 = true ∧ e 4 = true ∧ e 5 = true ∧ e 6 = true ∧ e 7 = true ∧ e 8 = true ∧ True from hdp)
     simp only [setE, h0, h1, h2, h3, h4, h5, h6, h7, h8, he, cj_t, cj_f, cjn_t, cjn_f, cb_t, cb_f]
     refine StA (V rfl) rfl (V rfl) Sz24 <| Nt <| We ?_ ?_
     ·exact ⟨V rfl, V rfl, V rfl, V rfl, V rfl, V rfl, V rfl, V rfl, V rfl, V rfl, V rfl, V rfl, V rfl, V rfl, V rfl, V rfl, Z⟩
     ·exact ⟨⟨_, rfl, ⟨rfl, rfl, (An rfl)⟩⟩, ⟨_, rfl, ⟨rfl, rfl, (An rfl)⟩⟩, ⟨_, rfl, ⟨rfl, rfl, (An rfl)⟩⟩, Z⟩
    ·intro e hdn he hdp
     obtain ⟨h9, h10, h0, h1, h2, h3, h4, h5, h6, h7, h8, -, -, -⟩ := (show e 9 = true ∧ e 10 = true ∧ e 0 = true ∧ e 1 = true ∧ e 2 = true ∧ e 3 = true ∧ e 4 = true ∧ e 5 = true ∧ e 6 = true ∧ e 7 = true ∧ e 8 = true ∧ e 9 = true ∧ e 10 = true ∧ True from hdp)
     simp only [setE, h0, h1, h2, h3, h4, h5, h6, h7, h8, h9, h10, he, cj_t, cj_f, cjn_t, cjn_f, cb_t, cb_f]
     refine U (As (V rfl)) <| Nt <| We ?_ ?_
     ·exact ⟨V rfl, V rfl, V rfl, V rfl, V rfl, V rfl, V rfl, V rfl, V rfl, V rfl, V rfl, V rfl, V rfl, V rfl, V rfl, V rfl, Z⟩
     ·exact ⟨⟨_, rfl, ⟨rfl, rfl, (An rfl)⟩⟩, ⟨_, rfl, ⟨rfl, rfl, (An rfl)⟩⟩, ⟨_, rfl, ⟨rfl, rfl, (An rfl)⟩⟩, Z⟩
    ·intro e he
     have h0 := he 0 (by decide)
     have h1 := he 1 (by decide)
     have h2 := he 2 (by decide)
     have h3 := he 3 (by decide)
     have h4 := he 4 (by decide)
     have h5 := he 5 (by decide)
     have h6 := he 6 (by decide)
     have h7 := he 7 (by decide)
     have h8 := he 8 (by decide)
     have h9 := he 9 (by decide)
     have h10 := he 10 (by decide)
     have h11 := he 11 (by decide)
     show Weak _ ⟨[(47, cj (e 0) (SV.agg 1 (fun zi => (stG fam4) (0 + zi)))), (48, cj (e 1) (elB [iv (0), iv (1), iv (1), iv (1), iv (2), iv (1)] 0)), (49, cj (e 2) (SV.agg 2 (fun zi => (fun zt => ([iv (0), iv (1), iv (1), iv (1), iv (2), iv (1)] : List SV).getD zt .junk) (0 + zi)))), (50, cj (e 3) (elB [iv (0), iv (1), iv (1), iv (1), iv (2), iv (1)] 4)), (51, cj (e 4) (SV.agg 2 (fun zi => (fun zt => ([iv (0), iv (1), iv (1), iv (1), iv (2), iv (1)] : List SV).getD zt .junk) (4 + zi)))), (52, cj (e 5) (hdRow ([⟨1, 1⟩]))), (53, cj (e 6) (sv2 (SV.agg 1 (stG fam5)) (iv (0)))), (46, cj (e 7) (sv2 (SV.agg 1 (stG fam5)) (iv (0)))), (54, cj (e 8) (SV.agg 1 (stG fam5))), (55, cj (e 9) (iv (0))), (4, cj (e 11) (iv (0))), (0, SV.bp 1 0), (1, SV.bp 2 0), (3, SV.bp 3 0), (5, bv (true && (decide ((0 : Int) = 0)))), (6, elB [iv (0), iv (1), iv (1), iv (1), iv (2), iv (1)] 0)], (cb (e 10) [(1, Own.box 1 (cmpG [SV.v (Value.slice none 0 0)]) 24), (2, Own.box 6 (cmpG [iv (0), iv (0), iv (0), iv (0), iv (0), iv (0)]) 113), (3, Own.box 1 (stG fam5) 24)] [(1, Own.box 1 (cmpG [SV.v (Value.slice none 0 0)]) 24), (2, Own.box 6 (cmpG [iv (0), iv (0), iv (0), iv (0), iv (0), iv (0)]) 113), (3, Own.box 1 (stG fam4) 24)])⟩ _
     simp only [h0, h1, h2, h3, h4, h5, h6, h7, h8, h9, h10, h11]
     show Weak _ ⟨[(47, SV.agg 1 (fun zi => (stG fam4) (0 + zi))), (48, elB [iv (0), iv (1), iv (1), iv (1), iv (2), iv (1)] 0), (49, SV.agg 2 (fun zi => (fun zt => ([iv (0), iv (1), iv (1), iv (1), iv (2), iv (1)] : List SV).getD zt .junk) (0 + zi))), (50, elB [iv (0), iv (1), iv (1), iv (1), iv (2), iv (1)] 4), (51, SV.agg 2 (fun zi => (fun zt => ([iv (0), iv (1), iv (1), iv (1), iv (2), iv (1)] : List SV).getD zt .junk) (4 + zi))), (52, hdRow ([⟨1, 1⟩])), (53, sv2 (SV.agg 1 (stG fam5)) (iv (0))), (46, sv2 (SV.agg 1 (stG fam5)) (iv (0))), (54, SV.agg 1 (stG fam5)), (55, iv (0)), (4, iv (0)), (0, SV.bp 1 0), (1, SV.bp 2 0), (3, SV.bp 3 0), (5, bv (true && (decide ((0 : Int) = 0)))), (6, elB [iv (0), iv (1), iv (1), iv (1), iv (2), iv (1)] 0)], [(1, Own.box 1 (cmpG [SV.v (Value.slice none 0 0)]) 24), (2, Own.box 6 (cmpG [iv (0), iv (0), iv (0), iv (0), iv (0), iv (0)]) 113), (3, Own.box 1 (stG fam5) 24)]⟩ _
     refine We ?_ ?_
     ·exact ⟨Va (V rfl) (An rfl), V rfl, Va (V rfl) (An rfl), V rfl, Va (V rfl) (An rfl), V rfl, V rfl, V rfl, Va (V rfl) (An rfl), V rfl, V rfl, V rfl, V rfl, V rfl, V rfl, V rfl, Z⟩
     ·exact ⟨⟨_, rfl, ⟨rfl, rfl, (An rfl)⟩⟩, ⟨_, rfl, ⟨rfl, rfl, (An rfl)⟩⟩, ⟨_, rfl, ⟨rfl, rfl, (An rfl)⟩⟩, Z⟩
    refine Sq <| c_rd (fun e => ⟨[(56, cj (e 0) (SV.agg 1 (fun zi => (stG fam5) (0 + zi)))), (57, cj (e 1) (SV.agg 6 (fun zi => (fun zt => ([iv (0), iv (1), iv (1), iv (1), iv (2), iv (1)] : List SV).getD zt .junk) (0 + zi)))), (58, cj (e 2) (bv (true && (decide ((0 : Int) = 0))))), (59, cj (e 3) (bv (true && (decide ((0 : Int) = 0))))), (60, cj (e 4) (SV.grd ((true && (decide ((0 : Int) = 0)))) (iv (0)))), (61, cj (e 5) (SV.grd ((true && (decide ((0 : Int) = 0)))) (bv (decide ((0 : Int) = 0))))), (62, cj (e 6) (bv ((true && (decide ((0 : Int) = 0))) && (decide ((0 : Int) = 0))))), (63, cj (e 7) (bv ((true && (decide ((0 : Int) = 0))) && (decide ((0 : Int) = 0))))), (64, cj (e 8) (SV.grd (((true && (decide ((0 : Int) = 0))) && (decide ((0 : Int) = 0)))) (SV.bp 3 0))), (65, cj (e 9) (SV.grd (((true && (decide ((0 : Int) = 0))) && (decide ((0 : Int) = 0)))) (ndRow fam5))), (66, cj (e 10) (SV.grd (((true && (decide ((0 : Int) = 0))) && (decide ((0 : Int) = 0)))) (iv ((fam5.length : Int))))), (67, cj (e 11) (SV.grd (((true && (decide ((0 : Int) = 0))) && (decide ((0 : Int) = 0)))) (bv (decide ((fam5.length : Int) = 6))))), (68, cj (e 12) (bv (((true && (decide ((0 : Int) = 0))) && (decide ((0 : Int) = 0))) && (decide ((fam5.length : Int) = 6))))), (2, cj (e 15) (bv (((true && (decide ((0 : Int) = 0))) && (decide ((0 : Int) = 0))) && (decide ((fam5.length : Int) = 6))))), (0, SV.bp 1 0), (1, SV.bp 2 0), (3, SV.bp 3 0), (4, iv (0)), (5, bv (true && (decide ((0 : Int) = 0)))), (6, elB [iv (0), iv (1), iv (1), iv (1), iv (2), iv (1)] 0)], (cb (e 13) (cb (e 14) [(1, Own.box 1 (fun zi => (stG fam5) (0 + zi)) 24), (2, Own.box 6 (fun zi => (fun zt => ([iv (0), iv (1), iv (1), iv (1), iv (2), iv (1)] : List SV).getD zt .junk) (0 + zi)) 113), (3, Own.box 1 (stG fam5) 24)] [(1, Own.box 1 (fun zi => (stG fam5) (0 + zi)) 24), (2, Own.box 6 (cmpG [iv (0), iv (0), iv (0), iv (0), iv (0), iv (0)]) 113), (3, Own.box 1 (stG fam5) 24)]) (cb (e 14) [] [(1, Own.box 1 (cmpG [SV.v (Value.slice none 0 0)]) 24), (2, Own.box 6 (cmpG [iv (0), iv (0), iv (0), iv (0), iv (0), iv (0)]) 113), (3, Own.box 1 (stG fam5) 24)]))⟩) ⟨[(56, SV.agg 1 (fun zi => (stG fam5) (0 + zi))), (57, SV.agg 6 (fun zi => (fun zt => ([iv (0), iv (1), iv (1), iv (1), iv (2), iv (1)] : List SV).getD zt .junk) (0 + zi))), (58, bv (true && (decide ((0 : Int) = 0)))), (59, bv (true && (decide ((0 : Int) = 0)))), (60, SV.grd ((true && (decide ((0 : Int) = 0)))) (iv (0))), (61, SV.grd ((true && (decide ((0 : Int) = 0)))) (bv (decide ((0 : Int) = 0)))), (62, bv ((true && (decide ((0 : Int) = 0))) && (decide ((0 : Int) = 0)))), (63, bv ((true && (decide ((0 : Int) = 0))) && (decide ((0 : Int) = 0)))), (64, SV.grd (((true && (decide ((0 : Int) = 0))) && (decide ((0 : Int) = 0)))) (SV.bp 3 0)), (65, SV.grd (((true && (decide ((0 : Int) = 0))) && (decide ((0 : Int) = 0)))) (ndRow fam5)), (66, SV.grd (((true && (decide ((0 : Int) = 0))) && (decide ((0 : Int) = 0)))) (iv ((fam5.length : Int)))), (67, SV.grd (((true && (decide ((0 : Int) = 0))) && (decide ((0 : Int) = 0)))) (bv (decide ((fam5.length : Int) = 6)))), (68, bv (((true && (decide ((0 : Int) = 0))) && (decide ((0 : Int) = 0))) && (decide ((fam5.length : Int) = 6)))), (2, bv (((true && (decide ((0 : Int) = 0))) && (decide ((0 : Int) = 0))) && (decide ((fam5.length : Int) = 6)))), (0, SV.bp 1 0), (1, SV.bp 2 0), (3, SV.bp 3 0), (4, iv (0)), (5, bv (true && (decide ((0 : Int) = 0)))), (6, elB [iv (0), iv (1), iv (1), iv (1), iv (2), iv (1)] 0)], [(1, Own.box 1 (fun zi => (stG fam5) (0 + zi)) 24), (2, Own.box 6 (fun zi => (fun zt => ([iv (0), iv (1), iv (1), iv (1), iv (2), iv (1)] : List SV).getD zt .junk) (0 + zi)) 113), (3, Own.box 1 (stG fam5) 24)]⟩ (by kernel_rfl) (by kernel_rfl) ?_ ⟨?_, ?_, ?_, ?_, ?_, ?_, ?_, ?_, ?_, ?_, ?_, ?_, ?_, ?_, ?_, ?_, Z⟩ ?_ ?_
    ·show Weak _ _ ⟨[(56, SV.junk), (57, SV.junk), (58, SV.junk), (59, SV.junk), (60, SV.junk), (61, SV.junk), (62, SV.junk), (63, SV.junk), (64, SV.junk), (65, SV.junk), (66, SV.junk), (67, SV.junk), (68, SV.junk), (2, SV.junk), (0, SV.bp 1 0), (1, SV.bp 2 0), (3, SV.bp 3 0), (4, iv (0)), (5, bv (true && (decide ((0 : Int) = 0)))), (6, elB [iv (0), iv (1), iv (1), iv (1), iv (2), iv (1)] 0)], [(1, Own.box 1 (cmpG [SV.v (Value.slice none 0 0)]) 24), (2, Own.box 6 (cmpG [iv (0), iv (0), iv (0), iv (0), iv (0), iv (0)]) 113), (3, Own.box 1 (stG fam5) 24)]⟩
     refine We ?_ ?_
     ·exact ⟨Vj, Vj, Vj, Vj, Vj, Vj, Vj, Vj, Vj, Vj, Vj, Vj, Vj, Vj, V rfl, V rfl, V rfl, V rfl, V rfl, V rfl, Z⟩
     ·exact ⟨⟨_, rfl, ⟨rfl, rfl, (An rfl)⟩⟩, ⟨_, rfl, ⟨rfl, rfl, (An rfl)⟩⟩, ⟨_, rfl, ⟨rfl, rfl, (An rfl)⟩⟩, Z⟩
    ·intro e hdn he hdp
     have h13 : e 13 = false := fls he fun q => by obtain ⟨r0, -, -, -⟩ := (show e 0 = true ∧ e 7 = true ∧ e 0 = true ∧ True from hdn 13 q); exact r0
     have h14 : e 14 = false := fls he fun q => by obtain ⟨-, r13, -, -, -, -⟩ := (show e 1 = true ∧ e 13 = true ∧ e 0 = true ∧ e 1 = true ∧ e 13 = true ∧ True from hdn 14 q); obtain ⟨r0, -, -, -⟩ := (show e 0 = true ∧ e 7 = true ∧ e 0 = true ∧ True from hdn 13 r13); exact r0
     simp only [setE, he, h13, h14, cj_t, cj_f, cjn_t, cjn_f, cb_t, cb_f]
     refine U (LBA (V rfl) rfl Ga24 Sz24 (by decide)) <| Nt <| We ?_ ?_
     ·exact ⟨V rfl, V rfl, V rfl, V rfl, V rfl, V rfl, V rfl, V rfl, V rfl, V rfl, V rfl, V rfl, V rfl, V rfl, V rfl, V rfl, V rfl, V rfl, V rfl, V rfl, Z⟩
     ·exact ⟨⟨_, rfl, ⟨rfl, rfl, (An rfl)⟩⟩, ⟨_, rfl, ⟨rfl, rfl, (An rfl)⟩⟩, ⟨_, rfl, ⟨rfl, rfl, (An rfl)⟩⟩, Z⟩
    ·intro e hdn he hdp
     have h14 : e 14 = false := fls he fun q => by obtain ⟨r1, -, -, -, -, -⟩ := (show e 1 = true ∧ e 13 = true ∧ e 0 = true ∧ e 1 = true ∧ e 13 = true ∧ True from hdn 14 q); exact r1
     simp only [setE, he, h14, cj_t, cj_f, cjn_t, cjn_f, cb_t, cb_f]
     exact U (LdA (V rfl) Ga113 Sz113 (by show 0 + 6 ≤ 6; decide)) <| Nt <| weakS ⟨V rfl, V rfl, V rfl, V rfl, V rfl, V rfl, V rfl, V rfl, V rfl, V rfl, V rfl, V rfl, V rfl, V rfl, V rfl, V rfl, V rfl, V rfl, V rfl, V rfl, Z⟩
    ·intro e hdn he hdp
     have h13 : e 13 = false := fls he fun q => by obtain ⟨-, r7, -, -⟩ := (show e 0 = true ∧ e 7 = true ∧ e 0 = true ∧ True from hdn 13 q); obtain ⟨r6, -, -⟩ := (show e 6 = true ∧ e 3 = true ∧ True from hdn 7 r7); obtain ⟨-, r5, -⟩ := (show e 3 = true ∧ e 5 = true ∧ True from hdn 6 r6); obtain ⟨r4, -, -⟩ := (show e 4 = true ∧ e 3 = true ∧ True from hdn 5 r5); obtain ⟨r3, -⟩ := (show e 3 = true ∧ True from hdn 4 r4); obtain ⟨r2, -⟩ := (show e 2 = true ∧ True from hdn 3 r3); exact r2
     have h14 : e 14 = false := fls he fun q => by obtain ⟨-, r13, -, -, -, -⟩ := (show e 1 = true ∧ e 13 = true ∧ e 0 = true ∧ e 1 = true ∧ e 13 = true ∧ True from hdn 14 q); obtain ⟨-, r7, -, -⟩ := (show e 0 = true ∧ e 7 = true ∧ e 0 = true ∧ True from hdn 13 r13); obtain ⟨r6, -, -⟩ := (show e 6 = true ∧ e 3 = true ∧ True from hdn 7 r7); obtain ⟨-, r5, -⟩ := (show e 3 = true ∧ e 5 = true ∧ True from hdn 6 r6); obtain ⟨r4, -, -⟩ := (show e 4 = true ∧ e 3 = true ∧ True from hdn 5 r5); obtain ⟨r3, -⟩ := (show e 3 = true ∧ True from hdn 4 r4); obtain ⟨r2, -⟩ := (show e 2 = true ∧ True from hdn 3 r3); exact r2
     simp only [setE, he, h13, h14, cj_t, cj_f, cjn_t, cjn_f, cb_t, cb_f]
     refine U (Mv (V rfl)) <| Nt <| We ?_ ?_
     ·exact ⟨V rfl, V rfl, V rfl, V rfl, V rfl, V rfl, V rfl, V rfl, V rfl, V rfl, V rfl, V rfl, V rfl, V rfl, V rfl, V rfl, V rfl, V rfl, V rfl, V rfl, Z⟩
     ·exact ⟨⟨_, rfl, ⟨rfl, rfl, (An rfl)⟩⟩, ⟨_, rfl, ⟨rfl, rfl, (An rfl)⟩⟩, ⟨_, rfl, ⟨rfl, rfl, (An rfl)⟩⟩, Z⟩
    ·intro e hdn he hdp
     obtain ⟨h2, -⟩ := (show e 2 = true ∧ True from hdp)
     have h13 : e 13 = false := fls he fun q => by obtain ⟨-, r7, -, -⟩ := (show e 0 = true ∧ e 7 = true ∧ e 0 = true ∧ True from hdn 13 q); obtain ⟨r6, -, -⟩ := (show e 6 = true ∧ e 3 = true ∧ True from hdn 7 r7); obtain ⟨-, r5, -⟩ := (show e 3 = true ∧ e 5 = true ∧ True from hdn 6 r6); obtain ⟨r4, -, -⟩ := (show e 4 = true ∧ e 3 = true ∧ True from hdn 5 r5); obtain ⟨r3, -⟩ := (show e 3 = true ∧ True from hdn 4 r4); exact r3
     have h14 : e 14 = false := fls he fun q => by obtain ⟨-, r13, -, -, -, -⟩ := (show e 1 = true ∧ e 13 = true ∧ e 0 = true ∧ e 1 = true ∧ e 13 = true ∧ True from hdn 14 q); obtain ⟨-, r7, -, -⟩ := (show e 0 = true ∧ e 7 = true ∧ e 0 = true ∧ True from hdn 13 r13); obtain ⟨r6, -, -⟩ := (show e 6 = true ∧ e 3 = true ∧ True from hdn 7 r7); obtain ⟨-, r5, -⟩ := (show e 3 = true ∧ e 5 = true ∧ True from hdn 6 r6); obtain ⟨r4, -, -⟩ := (show e 4 = true ∧ e 3 = true ∧ True from hdn 5 r5); obtain ⟨r3, -⟩ := (show e 3 = true ∧ True from hdn 4 r4); exact r3
     simp only [setE, h2, he, h13, h14, cj_t, cj_f, cjn_t, cjn_f, cb_t, cb_f]
     refine U (Mv (V rfl)) <| Nt <| We ?_ ?_
     ·exact ⟨V rfl, V rfl, V rfl, V rfl, V rfl, V rfl, V rfl, V rfl, V rfl, V rfl, V rfl, V rfl, V rfl, V rfl, V rfl, V rfl, V rfl, V rfl, V rfl, V rfl, Z⟩
     ·exact ⟨⟨_, rfl, ⟨rfl, rfl, (An rfl)⟩⟩, ⟨_, rfl, ⟨rfl, rfl, (An rfl)⟩⟩, ⟨_, rfl, ⟨rfl, rfl, (An rfl)⟩⟩, Z⟩
    ·intro e hdn he hdp
     obtain ⟨h3, -⟩ := (show e 3 = true ∧ True from hdp)
     obtain ⟨h2, -⟩ := (show e 2 = true ∧ True from hdn 3 h3)
     have h13 : e 13 = false := fls he fun q => by obtain ⟨-, r7, -, -⟩ := (show e 0 = true ∧ e 7 = true ∧ e 0 = true ∧ True from hdn 13 q); obtain ⟨r6, -, -⟩ := (show e 6 = true ∧ e 3 = true ∧ True from hdn 7 r7); obtain ⟨-, r5, -⟩ := (show e 3 = true ∧ e 5 = true ∧ True from hdn 6 r6); obtain ⟨r4, -, -⟩ := (show e 4 = true ∧ e 3 = true ∧ True from hdn 5 r5); exact r4
     have h14 : e 14 = false := fls he fun q => by obtain ⟨-, r13, -, -, -, -⟩ := (show e 1 = true ∧ e 13 = true ∧ e 0 = true ∧ e 1 = true ∧ e 13 = true ∧ True from hdn 14 q); obtain ⟨-, r7, -, -⟩ := (show e 0 = true ∧ e 7 = true ∧ e 0 = true ∧ True from hdn 13 r13); obtain ⟨r6, -, -⟩ := (show e 6 = true ∧ e 3 = true ∧ True from hdn 7 r7); obtain ⟨-, r5, -⟩ := (show e 3 = true ∧ e 5 = true ∧ True from hdn 6 r6); obtain ⟨r4, -, -⟩ := (show e 4 = true ∧ e 3 = true ∧ True from hdn 5 r5); exact r4
     simp only [setE, h2, h3, he, h13, h14, cj_t, cj_f, cjn_t, cjn_f, cb_t, cb_f]
     refine Ug (Gy rfl rfl) (fun hg => Mv (V rfl)) <| Nt <| We ?_ ?_
     ·exact ⟨V rfl, V rfl, V rfl, V rfl, V rfl, V rfl, V rfl, V rfl, V rfl, V rfl, V rfl, V rfl, V rfl, V rfl, V rfl, V rfl, V rfl, V rfl, V rfl, V rfl, Z⟩
     ·exact ⟨⟨_, rfl, ⟨rfl, rfl, (An rfl)⟩⟩, ⟨_, rfl, ⟨rfl, rfl, (An rfl)⟩⟩, ⟨_, rfl, ⟨rfl, rfl, (An rfl)⟩⟩, Z⟩
    ·intro e hdn he hdp
     obtain ⟨h4, h3, -⟩ := (show e 4 = true ∧ e 3 = true ∧ True from hdp)
     obtain ⟨h2, -⟩ := (show e 2 = true ∧ True from hdn 3 h3)
     have h13 : e 13 = false := fls he fun q => by obtain ⟨-, r7, -, -⟩ := (show e 0 = true ∧ e 7 = true ∧ e 0 = true ∧ True from hdn 13 q); obtain ⟨r6, -, -⟩ := (show e 6 = true ∧ e 3 = true ∧ True from hdn 7 r7); obtain ⟨-, r5, -⟩ := (show e 3 = true ∧ e 5 = true ∧ True from hdn 6 r6); exact r5
     have h14 : e 14 = false := fls he fun q => by obtain ⟨-, r13, -, -, -, -⟩ := (show e 1 = true ∧ e 13 = true ∧ e 0 = true ∧ e 1 = true ∧ e 13 = true ∧ True from hdn 14 q); obtain ⟨-, r7, -, -⟩ := (show e 0 = true ∧ e 7 = true ∧ e 0 = true ∧ True from hdn 13 r13); obtain ⟨r6, -, -⟩ := (show e 6 = true ∧ e 3 = true ∧ True from hdn 7 r7); obtain ⟨-, r5, -⟩ := (show e 3 = true ∧ e 5 = true ∧ True from hdn 6 r6); exact r5
     simp only [setE, h2, h3, h4, he, h13, h14, cj_t, cj_f, cjn_t, cjn_f, cb_t, cb_f]
     refine Ug (Gy rfl rfl) (fun hg => Ql (Vg (V rfl) hg) K) <| Nt <| We ?_ ?_
     ·exact ⟨V rfl, V rfl, V rfl, V rfl, V rfl, V rfl, V rfl, V rfl, V rfl, V rfl, V rfl, V rfl, V rfl, V rfl, V rfl, V rfl, V rfl, V rfl, V rfl, V rfl, Z⟩
     ·exact ⟨⟨_, rfl, ⟨rfl, rfl, (An rfl)⟩⟩, ⟨_, rfl, ⟨rfl, rfl, (An rfl)⟩⟩, ⟨_, rfl, ⟨rfl, rfl, (An rfl)⟩⟩, Z⟩
    ·intro e hdn he hdp
     obtain ⟨h3, h5, -⟩ := (show e 3 = true ∧ e 5 = true ∧ True from hdp)
     obtain ⟨h4, -, -⟩ := (show e 4 = true ∧ e 3 = true ∧ True from hdn 5 h5)
     obtain ⟨h2, -⟩ := (show e 2 = true ∧ True from hdn 3 h3)
     have h13 : e 13 = false := fls he fun q => by obtain ⟨-, r7, -, -⟩ := (show e 0 = true ∧ e 7 = true ∧ e 0 = true ∧ True from hdn 13 q); obtain ⟨r6, -, -⟩ := (show e 6 = true ∧ e 3 = true ∧ True from hdn 7 r7); exact r6
     have h14 : e 14 = false := fls he fun q => by obtain ⟨-, r13, -, -, -, -⟩ := (show e 1 = true ∧ e 13 = true ∧ e 0 = true ∧ e 1 = true ∧ e 13 = true ∧ True from hdn 14 q); obtain ⟨-, r7, -, -⟩ := (show e 0 = true ∧ e 7 = true ∧ e 0 = true ∧ True from hdn 13 r13); obtain ⟨r6, -, -⟩ := (show e 6 = true ∧ e 3 = true ∧ True from hdn 7 r7); exact r6
     simp only [setE, h2, h3, h4, h5, he, h13, h14, cj_t, cj_f, cjn_t, cjn_f, cb_t, cb_f]
     refine U (Qa (V rfl) (fun h => Vg (V rfl) h)) <| Nt <| We ?_ ?_
     ·exact ⟨V rfl, V rfl, V rfl, V rfl, V rfl, V rfl, V rfl, V rfl, V rfl, V rfl, V rfl, V rfl, V rfl, V rfl, V rfl, V rfl, V rfl, V rfl, V rfl, V rfl, Z⟩
     ·exact ⟨⟨_, rfl, ⟨rfl, rfl, (An rfl)⟩⟩, ⟨_, rfl, ⟨rfl, rfl, (An rfl)⟩⟩, ⟨_, rfl, ⟨rfl, rfl, (An rfl)⟩⟩, Z⟩
    ·intro e hdn he hdp
     obtain ⟨h6, h3, -⟩ := (show e 6 = true ∧ e 3 = true ∧ True from hdp)
     obtain ⟨-, h5, -⟩ := (show e 3 = true ∧ e 5 = true ∧ True from hdn 6 h6)
     obtain ⟨h4, -, -⟩ := (show e 4 = true ∧ e 3 = true ∧ True from hdn 5 h5)
     obtain ⟨h2, -⟩ := (show e 2 = true ∧ True from hdn 3 h3)
     have h13 : e 13 = false := fls he fun q => by obtain ⟨-, r7, -, -⟩ := (show e 0 = true ∧ e 7 = true ∧ e 0 = true ∧ True from hdn 13 q); exact r7
     have h14 : e 14 = false := fls he fun q => by obtain ⟨-, r13, -, -, -, -⟩ := (show e 1 = true ∧ e 13 = true ∧ e 0 = true ∧ e 1 = true ∧ e 13 = true ∧ True from hdn 14 q); obtain ⟨-, r7, -, -⟩ := (show e 0 = true ∧ e 7 = true ∧ e 0 = true ∧ True from hdn 13 r13); exact r7
     simp only [setE, h2, h3, h4, h5, h6, he, h13, h14, cj_t, cj_f, cjn_t, cjn_f, cb_t, cb_f]
     refine U (Mv (V rfl)) <| Nt <| We ?_ ?_
     ·exact ⟨V rfl, V rfl, V rfl, V rfl, V rfl, V rfl, V rfl, V rfl, V rfl, V rfl, V rfl, V rfl, V rfl, V rfl, V rfl, V rfl, V rfl, V rfl, V rfl, V rfl, Z⟩
     ·exact ⟨⟨_, rfl, ⟨rfl, rfl, (An rfl)⟩⟩, ⟨_, rfl, ⟨rfl, rfl, (An rfl)⟩⟩, ⟨_, rfl, ⟨rfl, rfl, (An rfl)⟩⟩, Z⟩
    ·intro e hdn he hdp
     obtain ⟨h7, -⟩ := (show e 7 = true ∧ True from hdp)
     obtain ⟨h6, h3, -⟩ := (show e 6 = true ∧ e 3 = true ∧ True from hdn 7 h7)
     obtain ⟨-, h5, -⟩ := (show e 3 = true ∧ e 5 = true ∧ True from hdn 6 h6)
     obtain ⟨h4, -, -⟩ := (show e 4 = true ∧ e 3 = true ∧ True from hdn 5 h5)
     obtain ⟨h2, -⟩ := (show e 2 = true ∧ True from hdn 3 h3)
     simp only [setE, h2, h3, h4, h5, h6, h7, he, cj_t, cj_f, cjn_t, cjn_f, cb_t, cb_f]
     exact Ug (Gy rfl rfl) (fun hg => FlB _ _ (V rfl) Un24 rfl 0 Sz22) <| Nt <| weakS ⟨V rfl, V rfl, V rfl, V rfl, V rfl, V rfl, V rfl, V rfl, V rfl, V rfl, V rfl, V rfl, V rfl, V rfl, V rfl, V rfl, V rfl, V rfl, V rfl, V rfl, Z⟩
    ·intro e hdn he hdp
     obtain ⟨h8, h7, -⟩ := (show e 8 = true ∧ e 7 = true ∧ True from hdp)
     obtain ⟨h6, h3, -⟩ := (show e 6 = true ∧ e 3 = true ∧ True from hdn 7 h7)
     obtain ⟨-, h5, -⟩ := (show e 3 = true ∧ e 5 = true ∧ True from hdn 6 h6)
     obtain ⟨h4, -, -⟩ := (show e 4 = true ∧ e 3 = true ∧ True from hdn 5 h5)
     obtain ⟨h2, -⟩ := (show e 2 = true ∧ True from hdn 3 h3)
     cases hu13 : e 13
     ·have h14 : e 14 = false := fls hu13 fun q => by obtain ⟨-, r13, -, -, -, -⟩ := (show e 1 = true ∧ e 13 = true ∧ e 0 = true ∧ e 1 = true ∧ e 13 = true ∧ True from hdn 14 q); exact r13
      simp only [setE, h2, h3, h4, h5, h6, h7, h8, he, hu13, h14, cj_t, cj_f, cjn_t, cjn_f, cb_t, cb_f]
      refine Ug (Gy rfl rfl) (fun hg => LdB (Vg (V rfl) hg) rfl Ga22 (by decide)) <| Nt <| We ?_ ?_
      ·exact ⟨V rfl, V rfl, V rfl, V rfl, V rfl, V rfl, V rfl, V rfl, V rfl, V rfl, V rfl, V rfl, V rfl, V rfl, V rfl, V rfl, V rfl, V rfl, V rfl, V rfl, Z⟩
      ·exact ⟨⟨_, rfl, ⟨rfl, rfl, (An rfl)⟩⟩, ⟨_, rfl, ⟨rfl, rfl, (An rfl)⟩⟩, ⟨_, rfl, ⟨rfl, rfl, (An rfl)⟩⟩, Z⟩
     ·cases hu14 : e 14
      ·simp only [setE, h2, h3, h4, h5, h6, h7, h8, he, hu13, hu14, cj_t, cj_f, cjn_t, cjn_f, cb_t, cb_f]
       refine Ug (Gy rfl rfl) (fun hg => LdB (Vg (V rfl) hg) rfl Ga22 (by decide)) <| Nt <| We ?_ ?_
       ·exact ⟨V rfl, V rfl, V rfl, V rfl, V rfl, V rfl, V rfl, V rfl, V rfl, V rfl, V rfl, V rfl, V rfl, V rfl, V rfl, V rfl, V rfl, V rfl, V rfl, V rfl, Z⟩
       ·exact ⟨⟨_, rfl, ⟨rfl, rfl, (An rfl)⟩⟩, ⟨_, rfl, ⟨rfl, rfl, (An rfl)⟩⟩, ⟨_, rfl, ⟨rfl, rfl, (An rfl)⟩⟩, Z⟩
      ·simp only [setE, h2, h3, h4, h5, h6, h7, h8, he, hu13, hu14, cj_t, cj_f, cjn_t, cjn_f, cb_t, cb_f]
       refine Ug (Gy rfl rfl) (fun hg => LdB (Vg (V rfl) hg) rfl Ga22 (by decide)) <| Nt <| We ?_ ?_
       ·exact ⟨V rfl, V rfl, V rfl, V rfl, V rfl, V rfl, V rfl, V rfl, V rfl, V rfl, V rfl, V rfl, V rfl, V rfl, V rfl, V rfl, V rfl, V rfl, V rfl, V rfl, Z⟩
       ·exact ⟨⟨_, rfl, ⟨rfl, rfl, (An rfl)⟩⟩, ⟨_, rfl, ⟨rfl, rfl, (An rfl)⟩⟩, ⟨_, rfl, ⟨rfl, rfl, (An rfl)⟩⟩, Z⟩
    ·intro e hdn he hdp
     obtain ⟨h9, h7, -⟩ := (show e 9 = true ∧ e 7 = true ∧ True from hdp)
     obtain ⟨h8, -, -⟩ := (show e 8 = true ∧ e 7 = true ∧ True from hdn 9 h9)
     obtain ⟨h6, h3, -⟩ := (show e 6 = true ∧ e 3 = true ∧ True from hdn 7 h7)
     obtain ⟨-, h5, -⟩ := (show e 3 = true ∧ e 5 = true ∧ True from hdn 6 h6)
     obtain ⟨h4, -, -⟩ := (show e 4 = true ∧ e 3 = true ∧ True from hdn 5 h5)
     obtain ⟨h2, -⟩ := (show e 2 = true ∧ True from hdn 3 h3)
     simp only [setE, h2, h3, h4, h5, h6, h7, h8, h9, he, cj_t, cj_f, cjn_t, cjn_f, cb_t, cb_f]
     exact Ug (Gy rfl rfl) (fun hg => Ln (Vg (V rfl) hg) ts22) <| Nt <| weakS ⟨V rfl, V rfl, V rfl, V rfl, V rfl, V rfl, V rfl, V rfl, V rfl, V rfl, V rfl, V rfl, V rfl, V rfl, V rfl, V rfl, V rfl, V rfl, V rfl, V rfl, Z⟩
    ·intro e hdn he hdp
     obtain ⟨h10, h7, -⟩ := (show e 10 = true ∧ e 7 = true ∧ True from hdp)
     obtain ⟨h9, -, -⟩ := (show e 9 = true ∧ e 7 = true ∧ True from hdn 10 h10)
     obtain ⟨h8, -, -⟩ := (show e 8 = true ∧ e 7 = true ∧ True from hdn 9 h9)
     obtain ⟨h6, h3, -⟩ := (show e 6 = true ∧ e 3 = true ∧ True from hdn 7 h7)
     obtain ⟨-, h5, -⟩ := (show e 3 = true ∧ e 5 = true ∧ True from hdn 6 h6)
     obtain ⟨h4, -, -⟩ := (show e 4 = true ∧ e 3 = true ∧ True from hdn 5 h5)
     obtain ⟨h2, -⟩ := (show e 2 = true ∧ True from hdn 3 h3)
     simp only [setE, h2, h3, h4, h5, h6, h7, h8, h9, h10, he, cj_t, cj_f, cjn_t, cjn_f, cb_t, cb_f]
     exact Ug (Gy rfl rfl) (fun hg => Ql (Vg (V rfl) hg) K) <| Nt <| weakS ⟨V rfl, V rfl, V rfl, V rfl, V rfl, V rfl, V rfl, V rfl, V rfl, V rfl, V rfl, V rfl, V rfl, V rfl, V rfl, V rfl, V rfl, V rfl, V rfl, V rfl, Z⟩
    ·intro e hdn he hdp
     obtain ⟨h7, h11, -⟩ := (show e 7 = true ∧ e 11 = true ∧ True from hdp)
     obtain ⟨h10, -, -⟩ := (show e 10 = true ∧ e 7 = true ∧ True from hdn 11 h11)
     obtain ⟨h9, -, -⟩ := (show e 9 = true ∧ e 7 = true ∧ True from hdn 10 h10)
     obtain ⟨h8, -, -⟩ := (show e 8 = true ∧ e 7 = true ∧ True from hdn 9 h9)
     obtain ⟨h6, h3, -⟩ := (show e 6 = true ∧ e 3 = true ∧ True from hdn 7 h7)
     obtain ⟨-, h5, -⟩ := (show e 3 = true ∧ e 5 = true ∧ True from hdn 6 h6)
     obtain ⟨h4, -, -⟩ := (show e 4 = true ∧ e 3 = true ∧ True from hdn 5 h5)
     obtain ⟨h2, -⟩ := (show e 2 = true ∧ True from hdn 3 h3)
     simp only [setE, h2, h3, h4, h5, h6, h7, h8, h9, h10, h11, he, cj_t, cj_f, cjn_t, cjn_f, cb_t, cb_f]
     exact U (Qa (V rfl) (fun h => Vg (V rfl) h)) <| Nt <| weakS ⟨V rfl, V rfl, V rfl, V rfl, V rfl, V rfl, V rfl, V rfl, V rfl, V rfl, V rfl, V rfl, V rfl, V rfl, V rfl, V rfl, V rfl, V rfl, V rfl, V rfl, Z⟩
    ·intro e hdn he hdp
     obtain ⟨h0, h7, -, -⟩ := (show e 0 = true ∧ e 7 = true ∧ e 0 = true ∧ True from hdp)
     obtain ⟨h6, h3, -⟩ := (show e 6 = true ∧ e 3 = true ∧ True from hdn 7 h7)
     obtain ⟨-, h5, -⟩ := (show e 3 = true ∧ e 5 = true ∧ True from hdn 6 h6)
     obtain ⟨h4, -, -⟩ := (show e 4 = true ∧ e 3 = true ∧ True from hdn 5 h5)
     obtain ⟨h2, -⟩ := (show e 2 = true ∧ True from hdn 3 h3)
     have h14 : e 14 = false := fls he fun q => by obtain ⟨-, r13, -, -, -, -⟩ := (show e 1 = true ∧ e 13 = true ∧ e 0 = true ∧ e 1 = true ∧ e 13 = true ∧ True from hdn 14 q); exact r13
     simp only [setE, h0, h2, h3, h4, h5, h6, h7, he, h14, cj_t, cj_f, cjn_t, cjn_f, cb_t, cb_f]
     refine StA (V rfl) rfl (V rfl) Sz24 <| Nt <| We ?_ ?_
     ·exact ⟨V rfl, V rfl, V rfl, V rfl, V rfl, V rfl, V rfl, V rfl, V rfl, V rfl, V rfl, V rfl, V rfl, V rfl, V rfl, V rfl, V rfl, V rfl, V rfl, V rfl, Z⟩
     ·exact ⟨⟨_, rfl, ⟨rfl, rfl, (An rfl)⟩⟩, ⟨_, rfl, ⟨rfl, rfl, (An rfl)⟩⟩, ⟨_, rfl, ⟨rfl, rfl, (An rfl)⟩⟩, Z⟩
    ·intro e hdn he hdp
     obtain ⟨h1, h13, h0, -, -, -⟩ := (show e 1 = true ∧ e 13 = true ∧ e 0 = true ∧ e 1 = true ∧ e 13 = true ∧ True from hdp)
     obtain ⟨-, h7, -, -⟩ := (show e 0 = true ∧ e 7 = true ∧ e 0 = true ∧ True from hdn 13 h13)
     obtain ⟨h6, h3, -⟩ := (show e 6 = true ∧ e 3 = true ∧ True from hdn 7 h7)
     obtain ⟨-, h5, -⟩ := (show e 3 = true ∧ e 5 = true ∧ True from hdn 6 h6)
     obtain ⟨h4, -, -⟩ := (show e 4 = true ∧ e 3 = true ∧ True from hdn 5 h5)
     obtain ⟨h2, -⟩ := (show e 2 = true ∧ True from hdn 3 h3)
     simp only [setE, h0, h1, h2, h3, h4, h5, h6, h7, h13, he, cj_t, cj_f, cjn_t, cjn_f, cb_t, cb_f]
     refine StA (V rfl) rfl (V rfl) Sz113 <| Nt <| We ?_ ?_
     ·exact ⟨V rfl, V rfl, V rfl, V rfl, V rfl, V rfl, V rfl, V rfl, V rfl, V rfl, V rfl, V rfl, V rfl, V rfl, V rfl, V rfl, V rfl, V rfl, V rfl, V rfl, Z⟩
     ·exact ⟨⟨_, rfl, ⟨rfl, rfl, (An rfl)⟩⟩, ⟨_, rfl, ⟨rfl, rfl, (An rfl)⟩⟩, ⟨_, rfl, ⟨rfl, rfl, (An rfl)⟩⟩, Z⟩
    ·intro e hdn he hdp
     obtain ⟨h12, h14, h0, h1, h2, h3, h4, h5, h6, h7, h8, h9, h10, h11, -, h13, -, -⟩ := (show e 12 = true ∧ e 14 = true ∧ e 0 = true ∧ e 1 = true ∧ e 2 = true ∧ e 3 = true ∧ e 4 = true ∧ e 5 = true ∧ e 6 = true ∧ e 7 = true ∧ e 8 = true ∧ e 9 = true ∧ e 10 = true ∧ e 11 = true ∧ e 12 = true ∧ e 13 = true ∧ e 14 = true ∧ True from hdp)
     simp only [setE, h0, h1, h2, h3, h4, h5, h6, h7, h8, h9, h10, h11, h12, h13, h14, he, cj_t, cj_f, cjn_t, cjn_f, cb_t, cb_f]
     refine U (As (V rfl)) <| Nt <| We ?_ ?_
     ·exact ⟨V rfl, V rfl, V rfl, V rfl, V rfl, V rfl, V rfl, V rfl, V rfl, V rfl, V rfl, V rfl, V rfl, V rfl, V rfl, V rfl, V rfl, V rfl, V rfl, V rfl, Z⟩
     ·exact ⟨⟨_, rfl, ⟨rfl, rfl, (An rfl)⟩⟩, ⟨_, rfl, ⟨rfl, rfl, (An rfl)⟩⟩, ⟨_, rfl, ⟨rfl, rfl, (An rfl)⟩⟩, Z⟩
    ·intro e he
     have h0 := he 0 (by decide)
     have h1 := he 1 (by decide)
     have h2 := he 2 (by decide)
     have h3 := he 3 (by decide)
     have h4 := he 4 (by decide)
     have h5 := he 5 (by decide)
     have h6 := he 6 (by decide)
     have h7 := he 7 (by decide)
     have h8 := he 8 (by decide)
     have h9 := he 9 (by decide)
     have h10 := he 10 (by decide)
     have h11 := he 11 (by decide)
     have h12 := he 12 (by decide)
     have h13 := he 13 (by decide)
     have h14 := he 14 (by decide)
     have h15 := he 15 (by decide)
     show Weak _ ⟨[(56, cj (e 0) (SV.agg 1 (fun zi => (stG fam5) (0 + zi)))), (57, cj (e 1) (SV.agg 6 (fun zi => (fun zt => ([iv (0), iv (1), iv (1), iv (1), iv (2), iv (1)] : List SV).getD zt .junk) (0 + zi)))), (58, cj (e 2) (bv (true && (decide ((0 : Int) = 0))))), (59, cj (e 3) (bv (true && (decide ((0 : Int) = 0))))), (60, cj (e 4) (SV.grd ((true && (decide ((0 : Int) = 0)))) (iv (0)))), (61, cj (e 5) (SV.grd ((true && (decide ((0 : Int) = 0)))) (bv (decide ((0 : Int) = 0))))), (62, cj (e 6) (bv ((true && (decide ((0 : Int) = 0))) && (decide ((0 : Int) = 0))))), (63, cj (e 7) (bv ((true && (decide ((0 : Int) = 0))) && (decide ((0 : Int) = 0))))), (64, cj (e 8) (SV.grd (((true && (decide ((0 : Int) = 0))) && (decide ((0 : Int) = 0)))) (SV.bp 3 0))), (65, cj (e 9) (SV.grd (((true && (decide ((0 : Int) = 0))) && (decide ((0 : Int) = 0)))) (ndRow fam5))), (66, cj (e 10) (SV.grd (((true && (decide ((0 : Int) = 0))) && (decide ((0 : Int) = 0)))) (iv ((fam5.length : Int))))), (67, cj (e 11) (SV.grd (((true && (decide ((0 : Int) = 0))) && (decide ((0 : Int) = 0)))) (bv (decide ((fam5.length : Int) = 6))))), (68, cj (e 12) (bv (((true && (decide ((0 : Int) = 0))) && (decide ((0 : Int) = 0))) && (decide ((fam5.length : Int) = 6))))), (2, cj (e 15) (bv (((true && (decide ((0 : Int) = 0))) && (decide ((0 : Int) = 0))) && (decide ((fam5.length : Int) = 6))))), (0, SV.bp 1 0), (1, SV.bp 2 0), (3, SV.bp 3 0), (4, iv (0)), (5, bv (true && (decide ((0 : Int) = 0)))), (6, elB [iv (0), iv (1), iv (1), iv (1), iv (2), iv (1)] 0)], (cb (e 13) (cb (e 14) [(1, Own.box 1 (fun zi => (stG fam5) (0 + zi)) 24), (2, Own.box 6 (fun zi => (fun zt => ([iv (0), iv (1), iv (1), iv (1), iv (2), iv (1)] : List SV).getD zt .junk) (0 + zi)) 113), (3, Own.box 1 (stG fam5) 24)] [(1, Own.box 1 (fun zi => (stG fam5) (0 + zi)) 24), (2, Own.box 6 (cmpG [iv (0), iv (0), iv (0), iv (0), iv (0), iv (0)]) 113), (3, Own.box 1 (stG fam5) 24)]) (cb (e 14) [] [(1, Own.box 1 (cmpG [SV.v (Value.slice none 0 0)]) 24), (2, Own.box 6 (cmpG [iv (0), iv (0), iv (0), iv (0), iv (0), iv (0)]) 113), (3, Own.box 1 (stG fam5) 24)]))⟩ _
     simp only [h0, h1, h2, h3, h4, h5, h6, h7, h8, h9, h10, h11, h12, h13, h14, h15]
     show Weak _ ⟨[(56, SV.agg 1 (fun zi => (stG fam5) (0 + zi))), (57, SV.agg 6 (fun zi => (fun zt => ([iv (0), iv (1), iv (1), iv (1), iv (2), iv (1)] : List SV).getD zt .junk) (0 + zi))), (58, bv (true && (decide ((0 : Int) = 0)))), (59, bv (true && (decide ((0 : Int) = 0)))), (60, SV.grd ((true && (decide ((0 : Int) = 0)))) (iv (0))), (61, SV.grd ((true && (decide ((0 : Int) = 0)))) (bv (decide ((0 : Int) = 0)))), (62, bv ((true && (decide ((0 : Int) = 0))) && (decide ((0 : Int) = 0)))), (63, bv ((true && (decide ((0 : Int) = 0))) && (decide ((0 : Int) = 0)))), (64, SV.grd (((true && (decide ((0 : Int) = 0))) && (decide ((0 : Int) = 0)))) (SV.bp 3 0)), (65, SV.grd (((true && (decide ((0 : Int) = 0))) && (decide ((0 : Int) = 0)))) (ndRow fam5)), (66, SV.grd (((true && (decide ((0 : Int) = 0))) && (decide ((0 : Int) = 0)))) (iv ((fam5.length : Int)))), (67, SV.grd (((true && (decide ((0 : Int) = 0))) && (decide ((0 : Int) = 0)))) (bv (decide ((fam5.length : Int) = 6)))), (68, bv (((true && (decide ((0 : Int) = 0))) && (decide ((0 : Int) = 0))) && (decide ((fam5.length : Int) = 6)))), (2, bv (((true && (decide ((0 : Int) = 0))) && (decide ((0 : Int) = 0))) && (decide ((fam5.length : Int) = 6)))), (0, SV.bp 1 0), (1, SV.bp 2 0), (3, SV.bp 3 0), (4, iv (0)), (5, bv (true && (decide ((0 : Int) = 0)))), (6, elB [iv (0), iv (1), iv (1), iv (1), iv (2), iv (1)] 0)], [(1, Own.box 1 (fun zi => (stG fam5) (0 + zi)) 24), (2, Own.box 6 (fun zi => (fun zt => ([iv (0), iv (1), iv (1), iv (1), iv (2), iv (1)] : List SV).getD zt .junk) (0 + zi)) 113), (3, Own.box 1 (stG fam5) 24)]⟩ _
     refine We ?_ ?_
     ·exact ⟨Va (V rfl) (An rfl), Va (V rfl) (An rfl), V rfl, V rfl, V rfl, V rfl, V rfl, V rfl, V rfl, V rfl, V rfl, V rfl, V rfl, V rfl, V rfl, V rfl, V rfl, V rfl, V rfl, V rfl, Z⟩
     ·exact ⟨⟨_, rfl, ⟨rfl, rfl, (An rfl)⟩⟩, ⟨_, rfl, ⟨rfl, rfl, (An rfl)⟩⟩, ⟨_, rfl, ⟨rfl, rfl, (An rfl)⟩⟩, Z⟩
    exact Rx <| RR3 rfl (rv_aggI (g' := stG fam5) (rv_cell (V rfl) rfl Ga24 Sz24) ⟨Z, Ir⟩) (rv_aggI (g' := cmpG [iv (0), iv (1), iv (1), iv (1), iv (2), iv (1)]) (rv_cell (V rfl) rfl Ga113 Sz113) ⟨⟨⟨⟨⟨⟨Z, Ir⟩, Ir⟩, Ir⟩, Ir⟩, Ir⟩, Ir⟩) (rv_tmp (V rfl)) rfl rfl rfl (by show sv3 (SV.agg 1 (stG fam5)) (SV.agg 6 (cmpG [iv (0), iv (1), iv (1), iv (1), iv (2), iv (1)])) (bv (((true && (decide ((0 : Int) = 0))) && (decide ((0 : Int) = 0))) && (decide ((fam5.length : Int) = 6)))) = sv3 (SV.agg 1 (stG fam5)) (SV.agg 6 (cmpG [iv (0), iv (1), iv (1), iv (1), iv (2), iv (1)])) (bv (true)); rfl)
end Go.Proofs.Ytmcdamcedemdiaa
namespace Go.Proofs.Ytmcdamcedemdiaa
open Go.RowKit Go.Eng
def usedB (l : List Nd) (k : Int) : Bool := (decide (0 ≤ k) && decide (k < (l.length : Int))) && (l.getD k.toNat default).used
theorem used_t {l : List Nd} {k : Int} : usedB l k = true ↔ (0 ≤ k ∧ k < (l.length : Int)) ∧ (l.getD k.toNat default).used = true := by
  simp only [usedB, Bool.and_eq_true, decide_eq_true_eq]
theorem nodup_take {L : List Int} (h : L.Nodup) {i : Nat} (hi : i < L.length) : ¬ L.getD i 0 ∈ L.take i := fun q => by
  obtain ⟨j, hj, e⟩ := getD_of_mem 0 q
  rw [List.length_take] at hj
  have e2 : (L.take i).getD j 0 = L.getD j 0 := by simp only [List.getD_eq_getElem?_getD, List.getElem?_take, if_pos (show j < i by omega)]
  rw [e2, getD_lt (by omega), getD_lt hi] at e
  exact (List.pairwise_iff_getElem.1 h) j i (by omega) hi (by omega) e
theorem ordS_nodup {l : List Nd} (h : checkSt l = 0) {k : Int} (hk : 0 ≤ k ∧ k < (l.length : Int)) : (ordSt l k).Nodup := ord_nodup h _ k hk
section
variable {l : List Nd} {h : Hd}
end
end Go.Proofs.Ytmcdamcedemdiaa
namespace Go.Proofs.Ytmcdamcedemdiaa
open Go.RowKit Go.Eng
theorem used_ct (l : List Nd) (k : Int) : Ct Try.prog 37 [SV.agg 1 (stG l), iv (k)] (bv (usedB l k)) := by
 exact CtO 22 Try.func37 rfl rfl rfl fun E => row_lenA 0 (V (s := 0) rfl) rfl rfl fun hl0_0 => Sq <| Rt <| BxA 1 (V rfl) rfl rfl <| U (As K) <| Nt <| Sq <| Rq <| O (Mv (V rfl)) <| O (Ge (V rfl) K) <| O (Mv (V rfl)) <| Og (Gy rfl rfl) (fun hg => Mv (V rfl)) <| Og (Gy rfl rfl) (fun hg => FlB _ _ (V rfl) Un24 rfl 0 Sz22) <| Og (Gy rfl rfl) (fun hg => LdB (Vg (V rfl) hg) rfl Ga22 (by decide)) <| Og (Gy rfl rfl) (fun hg => Ln (Vg (V rfl) hg) ts22) <| Og (Gy rfl rfl) (fun hg => Lt (Vg (V rfl) hg) (Vg (V rfl) hg)) <| O (Qa (V rfl) (fun h => Vg (V rfl) h)) <| O (Mv (V rfl)) <| Og (Gy rfl rfl) (fun hg => FlB _ _ (V rfl) Un24 rfl 0 Sz22) <| Og (Gy rfl rfl) (fun hg => LdB (Vg (V rfl) hg) rfl Ga22 (by decide)) <| Og (Gy rfl rfl) (fun hg => Mv (V rfl)) <| Og (Gy rfl rfl) (fun hg => Ix (Vg (V rfl) hg) (Vg (V rfl) hg) ts22 te22 (by have hgs := hg; try simp only [BL] at hgs; omega) (by have hgs := hg; try simp only [BL] at hgs; omega)) <| Og (Gy rfl rfl) (fun hg => Fl _ _ (Vg (V rfl) hg) Un61 rfl 0 Sz4) <| Og (Gy rfl rfl) (fun hg => Ld (Vg (V rfl) hg) Ga4 (by decide)) <| O (Qa (V rfl) (fun h => Vg (V rfl) h)) <| O (As (V rfl)) <| Nq <| Rx <| R1 rfl (V rfl) rfl (by show bv (((decide (0 ≤ k)) && (decide (k < (l.length : Int)))) && ((l.getD (Int.toNat k) default).used)) = bv (usedB l k); rfl)
end Go.Proofs.Ytmcdamcedemdiaa
namespace Go.Proofs.Ytmcdamcedemdiaa
open Go.RowKit Go.Eng
theorem top_ct (l : List Nd) (k : Int) (hc : checkSt l = 0) (hk : 0 ≤ k ∧ k < (l.length : Int)) : Ct Try.prog 137 [SV.agg 1 (stG l), iv (k)] (iv (topSt l k)) := by
 have h24 := checkSt_len hc
 refine CtO 19 Try.func137 rfl rfl rfl fun E => row_lenA 0 (V (s := 0) rfl) rfl rfl fun hl0_0 => Sq <| Rt <| BxA 1 (V rfl) rfl rfl <| U (As K) <| Nt <| Sq <| Bo <| Lo (fun (m : Nat) => ⟨[(1, iv (upN l m k)), (2, SV.bp 1 0)], [(1, Own.box 1 (stG l) 24)]⟩) (fun (m : Nat) => m ≤ l.length ∧ 0 ≤ upN l m k ∧ topSt l k = topN l (l.length + 1 - m) (upN l m k)) (fun (m : Nat) => l.length + 1 - m) 0 (by show 0 ≤ l.length ∧ 0 ≤ upN l 0 k ∧ topSt l k = topN l (l.length + 1 - 0) (upN l 0 k); exact ⟨Nat.zero_le _, hk.1, rfl⟩) (We (ow := [(1, Own.box 1 (stG l) 24)]) (Vs rfl) (by exact ⟨⟨_, rfl, rfl, rfl, (An rfl)⟩, Z⟩)) <| ?_
 ·rintro m hI1
  have hJ1 : m ≤ l.length ∧ 0 ≤ upN l m k ∧ topSt l k = topN l (l.length + 1 - m) (upN l m k) := hI1
  have hui := upN_in (checkSt_nodes hc) (show -1 ≤ k ∧ k < (l.length : Int) by omega) m
  have hml := up_lt hc (show -1 ≤ k ∧ k < (l.length : Int) by omega) hJ1.2.1
  have hpa := par_above hc (k := upN l m k) (by omega)
  have hst : l.length + 1 - m = (l.length - m) + 1 := by omega
  have h2 := hJ1.2.2
  have h0 := hJ1.2.1
  rw [hst] at h2
  refine Sq <| Sq <| Rq <| O (FlB _ _ (V rfl) Un24 rfl 0 Sz22) <| O (LdB (V rfl) rfl Ga22 (by decide)) <| O (Mv (V rfl)) <| O (Ix (V rfl) (V rfl) ts22 te22 (by omega) (by omega)) <| O (Fl _ _ (V rfl) Un61 rfl 0 Sz3) <| O (Ld (V rfl) Ga3 (by decide)) <| O (Ge (V rfl) K) <| Nq <| Cd (V rfl) (fun hc1 => ?_) (fun hc1 => ?_)
  ·have hc1s := hc1; try simp only [BL] at hc1s
   refine Sk <| Bo <| Rq <| O (FlB _ _ (V rfl) Un24 rfl 0 Sz22) <| O (LdB (V rfl) rfl Ga22 (by decide)) <| O (Mv (V rfl)) <| O (Ix (V rfl) (V rfl) ts22 te22 (by omega) (by omega)) <| O (Fl _ _ (V rfl) Un61 rfl 0 Sz3) <| O (Ld (V rfl) Ga3 (by decide)) <| O (As (V rfl)) <| Nq <| NxH (m + 1) (fun _ _ h => h) (by show (m + 1) ≤ l.length ∧ 0 ≤ upN l (m + 1) k ∧ topSt l k = topN l (l.length + 1 - (m + 1)) (upN l (m + 1) k); have hpu := hpa (by omega); refine ⟨by omega, ?_, ?_⟩; (show 0 ≤ up1 l (upN l m k); rw [← hpu]; omega); (rw [h2, topN, if_pos (by omega), hpu, show l.length + 1 - (m + 1) = l.length - m by omega]; rfl)) (by show l.length + 1 - (m + 1) < l.length + 1 - m; omega) (We (sl := [(1, iv (upN l ((m + 1)) k)), (2, SV.bp 1 0)]) (ow := [(1, Own.box 1 (stG l) 24)]) (by exact ⟨val_eq (V rfl) (congrArg iv (hpa (by omega))), V rfl, Z⟩) (by exact ⟨⟨_, rfl, rfl, rfl, (An rfl)⟩, Z⟩))
  ·have hc1s := hc1; try simp only [BL] at hc1s
   exact Ex <| Sq <| Rq <| O (Mv (V rfl)) <| O (As (V rfl)) <| Nq <| Rx <| R1 rfl (V rfl) rfl (by show iv (upN l m k) = iv (topSt l k); exact congrArg iv (by rw [h2, topN, if_neg (by omega)]))
end Go.Proofs.Ytmcdamcedemdiaa
namespace Go.Proofs.Ytmcdamcedemdiaa
open Go.RowKit Go.Eng
theorem topN_s {l : List Nd} (h : checkSt l = 0) : ∀ (n : Nat) (k : Int), 0 ≤ k ∧ k < (l.length : Int) → dpt l k ≤ n → topN l (n + 1) k = topN l n k
  | 0, k, hk, hd => by rw [dpt_eq h hk] at hd; omega
  | n + 1, k, hk, hd => by
    show (if _ then _ else _) = if _ then _ else _
    by_cases hp : 0 ≤ (l.getD k.toNat default).par
    · rw [if_pos hp, if_pos hp]
      have hpk := (par_kid h hk hp).1
      refine topN_s h n _ ⟨hp, hpk⟩ ?_
      have e := par_above h hk hp
      rw [up1, if_neg (by omega)] at e
      rw [dpt_eq h hk, ← e] at hd
      omega
    · rw [if_neg hp, if_neg hp]
theorem dpt_le {l : List Nd} (h : checkSt l = 0) {k : Int} (hk : 0 ≤ k ∧ k < (l.length : Int)) : dpt l k ≤ l.length := by
  have h1 := (line_len (checkSt_nodes h) (l.length + 1) k (by omega)).1
  have h2 := (line_len (checkSt_nodes h) (l.length + 1) k (by omega)).2
  have h3 := (st_cnt h (i := k.toNat) (by omega)).2.2.2
  rw [show ((k.toNat : Nat) : Int) = k by omega] at h3
  have h2 : dpt l k = l.length + 1 ↔ l.length + 1 = 0 ∨ 0 ≤ upN l l.length k := h2
  have h1 : dpt l k ≤ l.length + 1 := h1
  by_cases e : dpt l k = l.length + 1
  · rcases h2.1 e with q | q <;> omega
  · omega
theorem top_par {l : List Nd} (h : checkSt l = 0) {k : Int} (hk : 0 ≤ k ∧ k < (l.length : Int)) (hp : 0 ≤ (l.getD k.toNat default).par) : topSt l k = topSt l (l.getD k.toNat default).par := by
  have hpk := (par_kid h hk hp).1
  unfold topSt
  rw [topN, if_pos hp]
  exact (topN_s h l.length _ ⟨hp, hpk⟩ (dpt_le h ⟨hp, hpk⟩)).symm
theorem top_self {l : List Nd} {k : Int} (hp : ¬ 0 ≤ (l.getD k.toNat default).par) : topSt l k = k := by unfold topSt; rw [topN, if_neg hp]
theorem above_par {l : List Nd} (h : checkSt l = 0) {k : Int} (hk : 0 ≤ k ∧ k < (l.length : Int)) (hp : 0 ≤ (l.getD k.toNat default).par) : above (l.getD k.toNat default) = (l.getD k.toNat default).par ∧ (l.getD k.toNat default).host < 0 := by
  have hh : (l.getD k.toNat default).host < 0 := Classical.byContradiction fun q => by have := (st_n1 h hk).one (by omega); omega
  exact ⟨by unfold above; rw [if_neg (by omega)], hh⟩
def attAt (m : List Nd) (k : Nat) (h : Int) (cl : Bool) : List Nd := (m.set k { (m.getD k default) with host := h }).set k { ((m.set k { (m.getD k default) with host := h }).getD k default) with closed := cl }
def attSt (l : List Nd) (h : Hd) (cl : Bool) : List Nd × Hd × Int :=
  if firstSt l [h] ≠ 0 then ([], ⟨0, 0⟩, firstSt l [h]) else if (l.any fun n => decide (n.host = h.pl)) = true then ([], ⟨0, 0⟩, 6) else if (mkSt l 0).2.2 ≠ 0 then ([], ⟨0, 0⟩, (mkSt l 0).2.2)
  else (attAt (mkSt l 0).1 (mkSt l 0).2.1.pl.toNat h.pl cl, (mkSt l 0).2.1, 0)
section
variable {l : List Nd} {h : Hd} {cl : Bool}
theorem att_1 (q : ¬ firstSt l [h] = 0) : attSt l h cl = ([], ⟨0, 0⟩, firstSt l [h]) := if_pos q
theorem att_2 (q : firstSt l [h] = 0) (q2 : (l.any fun n => decide (n.host = h.pl)) = true) : attSt l h cl = ([], ⟨0, 0⟩, 6) := by unfold attSt; rw [if_neg (not_not_intro q), if_pos q2]
theorem att_3 (q : firstSt l [h] = 0) (q2 : (l.any fun n => decide (n.host = h.pl)) = false) (q3 : ¬ (mkSt l 0).2.2 = 0) : attSt l h cl = ([], ⟨0, 0⟩, (mkSt l 0).2.2) := by unfold attSt; rw [if_neg (not_not_intro q), if_neg (ff q2), if_pos q3]
theorem att_4 (q : firstSt l [h] = 0) (q2 : (l.any fun n => decide (n.host = h.pl)) = false) (q3 : (mkSt l 0).2.2 = 0) : attSt l h cl = (attAt (mkSt l 0).1 (mkSt l 0).2.1.pl.toNat h.pl cl, (mkSt l 0).2.1, 0) := by
  unfold attSt; rw [if_neg (not_not_intro q), if_neg (ff q2), if_neg (not_not_intro q3)]
end
theorem mk_pl {l : List Nd} {g : Int} (e : (mkSt l g).2.2 = 0) : ∃ k : Nat, k < l.length ∧ roomB (l.getD k default) = true ∧ (0 ≤ g ∧ g ≤ 99) ∧ checkSt l = 0 ∧ (mkSt l g).1 = mkAt l k g ∧ (mkSt l g).2.1 = ⟨(k : Int), (l.getD k default).uses + 1⟩ := by
  have h1 : checkSt l = 0 := Classical.byContradiction fun q => by rw [mk_1 q] at e; exact q e
  have h2 : ¬ (g < 0 ∨ 99 < g) := fun q => by rw [mk_2 h1 q] at e; cases e
  rcases idxF_cases roomB default l with ⟨a, _⟩ | ⟨i, a, hi, hp, ha⟩
  · rw [mk_3 h1 h2 (by omega)] at e; cases e
  · have q := mk_hit h1 h2 hi ha hp
    exact ⟨i, hi, hp, by omega, h1, by rw [q], by rw [q]⟩
theorem mk_in {l : List Nd} {g : Int} (e : (mkSt l g).2.2 = 0) : (mkSt l g).1.length = l.length ∧ 0 ≤ (mkSt l g).2.1.pl ∧ (mkSt l g).2.1.pl < (l.length : Int) := by
  obtain ⟨k, hk, _, _, _, e1, e2⟩ := mk_pl e
  rw [e1, e2, mkAt_len]
  exact ⟨rfl, by show 0 ≤ (k : Int) ∧ (k : Int) < _; omega⟩
theorem line_in {l : List Nd} {k x : Int} (hx : x ∈ line l k) : 0 ≤ x ∧ x < (l.length : Int) := by
  have key : ∀ (n : Nat) (k : Int), x ∈ lineN l n k → 0 ≤ x ∧ x < (l.length : Int) := fun n => by
    induction n with
    | zero => intro k q; cases q
    | succ n ih =>
      intro k q
      rw [lineN] at q
      split at q
      · rename_i hr
        rcases List.mem_cons.1 q with rfl | q
        · exact hr
        · exact ih _ q
      · cases q
  exact key _ _ hx
theorem line_len25 {l : List Nd} (h : checkSt l = 0) (k : Int) : (line l k).length ≤ l.length + 1 := by
  have key : ∀ (n : Nat) (k : Int), (lineN l n k).length ≤ n := fun n => by
    induction n with
    | zero => intro k; exact Nat.le_refl 0
    | succ n ih =>
      intro k
      rw [lineN]
      split
      · rw [List.length_cons]; have := ih (runder (l.getD k.toNat default)); omega
      · exact Nat.zero_le _
  exact key _ _
end Go.Proofs.Ytmcdamcedemdiaa
namespace Go.Proofs.Ytmcdamcedemdiaa
open Go.RowKit Go.Eng
theorem makeO_ct (l : List Nd) (tag : Int) (hb : ∀ n ∈ l, n.kids.length ≤ 17592186043904) : CtM Try.prog 40 [SV.agg 1 (stG l), iv (tag)] [] (sv3 (SV.agg 1 (cmpG [SV.own 0])) (SV.agg 2 (hdCell ((mkSt l tag).2.1))) (iv ((mkSt l tag).2.2))) [(0, ownOf ndCell 8 default ((mkSt l tag).1) 61)] := by
 refine CmO 59 Try.func40 rfl rfl rfl fun E => row_lenA 0 (V (s := 0) rfl) rfl rfl fun hl0_0 => Sq <| Rt <| BxA 1 (V rfl) rfl rfl <| Al 2 zero24 rfl rfl <| Al 3 zero26 rfl rfl <| U (As K) <| Nt <| Sq <| Sq <| Rq <| O (LBA (V rfl) rfl Ga24 Sz24 (by decide)) <| CQ en44 (by exact ⟨⟨(Vi (g' := stG l) (V rfl) ⟨Z, Ir⟩), rfl⟩, Z⟩) (stcheck_ct l (by first | assumption | exact kb_nil | exact kb_of (by assumption) | exact kb_of fam_c5)) <| O (As (V rfl)) <| Nq <| Sq <| Rq <| O (Mv (V rfl)) <| O (Qn (V rfl) K) <| Nq <| Cd (V rfl) (fun hc1 => ?_) (fun hc1 => ?_)
 ·have hc1s := hc1; try simp only [BL] at hc1s
  exact Sq <| Rt <| U (Bu [] id (cmpG [SV.v (Value.slice none 0 0)]) zero24 build24 (by exact Z) (by decide) ⟨Z, rfl⟩) <| U (Bu [] id (hdCell ⟨0, 0⟩) zero26 build26 (by exact Z) (by decide) ⟨⟨Z, rfl⟩, rfl⟩) <| U (Mv (V rfl)) <| StA (V rfl) rfl (V rfl) Sz24 <| StA (V rfl) rfl (V rfl) Sz26 <| U (As (V rfl)) <| Nt <| Tc (turn_nilB 2 0 4 8 (rowG ndCell default []) 61 (by exact rfl) (by exact rfl) (by exact rfl)) <| c_mv 4 0 rfl rfl <| c_ownE 0 ((mkSt l tag).1) rfl (by rw [mk_1 hc1s]) <| Rx <| RM3 rfl (rv_aggI (g' := cmpG [SV.own 0]) (rv_cell (V rfl) rfl Ga24 Sz24) ⟨Z, Ir⟩) (rv_aggI (g' := hdCell ⟨0, 0⟩) (rv_cell (V rfl) rfl Ga26 Sz26) ⟨⟨Z, Ir⟩, Ir⟩) (rv_tmp (V rfl)) (by exact ⟨⟨_, rfl, rfl⟩, Z⟩) (by show sv3 (SV.agg 1 (cmpG [SV.own 0])) (SV.agg 2 (hdCell ⟨0, 0⟩)) (iv (checkSt l)) = sv3 (SV.agg 1 (cmpG [SV.own 0])) (SV.agg 2 (hdCell ((mkSt l tag).2.1))) (iv ((mkSt l tag).2.2)); rw [mk_1 hc1s])
 ·have hc1s := hc1; try simp only [BL] at hc1s
  have hl24 := checkSt_len hc1s
  have hkf : ∀ i, i < l.length → (l.getD i default).kids.length ≤ 24 := fun i hi => kids_few hc1s hi
  refine Sk <| Sq <| Sq <| Rq <| O (Mv (V rfl)) <| O (Lt (V rfl) K) <| O (Mv (V rfl)) <| Og (Gn rfl rfl) (fun hg => Mv (V rfl)) <| Og (Gn rfl rfl) (fun hg => Gt (Vg (V rfl) hg) K) <| O (Qr (V rfl) (fun h => Vg (V rfl) (notT h))) <| Nq <| Cd (V rfl) (fun hc2 => ?_) (fun hc2 => ?_)
  ·have hc2s := hc2; try simp only [BL] at hc2s
   exact Sq <| Rt <| U (Bu [] id (cmpG [SV.v (Value.slice none 0 0)]) zero24 build24 (by exact Z) (by decide) ⟨Z, rfl⟩) <| U (Bu [] id (hdCell ⟨0, 0⟩) zero26 build26 (by exact Z) (by decide) ⟨⟨Z, rfl⟩, rfl⟩) <| StA (V rfl) rfl (V rfl) Sz24 <| StA (V rfl) rfl (V rfl) Sz26 <| U (As K) <| Nt <| Tc (turn_nilB 2 0 5 8 (rowG ndCell default []) 61 (by exact rfl) (by exact rfl) (by exact rfl)) <| c_mv 5 0 rfl rfl <| c_ownE 0 ((mkSt l tag).1) rfl (by rw [mk_2 hc1s hc2s]) <| Rx <| RM3 rfl (rv_aggI (g' := cmpG [SV.own 0]) (rv_cell (V rfl) rfl Ga24 Sz24) ⟨Z, Ir⟩) (rv_aggI (g' := hdCell ⟨0, 0⟩) (rv_cell (V rfl) rfl Ga26 Sz26) ⟨⟨Z, Ir⟩, Ir⟩) (rv_tmp (V rfl)) (by exact ⟨⟨_, rfl, rfl⟩, Z⟩) (by show sv3 (SV.agg 1 (cmpG [SV.own 0])) (SV.agg 2 (hdCell ⟨0, 0⟩)) (iv (2)) = sv3 (SV.agg 1 (cmpG [SV.own 0])) (SV.agg 2 (hdCell ((mkSt l tag).2.1))) (iv ((mkSt l tag).2.2)); rw [mk_2 hc1s hc2s])
  ·have hc2s := hc2; try simp only [BL] at hc2s
   refine Sk <| Sq <| Rt <| U (FlB _ _ (V rfl) Un24 rfl 0 Sz22) <| U (LdB (V rfl) rfl Ga22 (by decide)) <| CT en113 (by exact ⟨⟨(V rfl), rfl⟩, ⟨(VA (Vf) rfl), rfl⟩, Z⟩) (idxf113_ct roomB en114 rfl room_ct l) <| U (As (V rfl)) <| Nt <| Sq <| Sq <| Rq <| O (Mv (V rfl)) <| O (Lt (V rfl) K) <| Nq <| Cd (V rfl) (fun hc3 => ?_) (fun hc3 => ?_)
   ·have hc3s := hc3; try simp only [BL] at hc3s
    exact Sq <| Rt <| U (Bu [] id (cmpG [SV.v (Value.slice none 0 0)]) zero24 build24 (by exact Z) (by decide) ⟨Z, rfl⟩) <| U (Bu [] id (hdCell ⟨0, 0⟩) zero26 build26 (by exact Z) (by decide) ⟨⟨Z, rfl⟩, rfl⟩) <| StA (V rfl) rfl (V rfl) Sz24 <| StA (V rfl) rfl (V rfl) Sz26 <| U (As K) <| Nt <| Tc (turn_nilB 2 0 6 8 (rowG ndCell default []) 61 (by exact rfl) (by exact rfl) (by exact rfl)) <| c_mv 6 0 rfl rfl <| c_ownE 0 ((mkSt l tag).1) rfl (by rw [mk_3 hc1s (by omega) hc3s]) <| Rx <| RM3 rfl (rv_aggI (g' := cmpG [SV.own 0]) (rv_cell (V rfl) rfl Ga24 Sz24) ⟨Z, Ir⟩) (rv_aggI (g' := hdCell ⟨0, 0⟩) (rv_cell (V rfl) rfl Ga26 Sz26) ⟨⟨Z, Ir⟩, Ir⟩) (rv_tmp (V rfl)) (by exact ⟨⟨_, rfl, rfl⟩, Z⟩) (by show sv3 (SV.agg 1 (cmpG [SV.own 0])) (SV.agg 2 (hdCell ⟨0, 0⟩)) (iv (1)) = sv3 (SV.agg 1 (cmpG [SV.own 0])) (SV.agg 2 (hdCell ((mkSt l tag).2.1))) (iv ((mkSt l tag).2.2)); rw [mk_3 hc1s (by omega) hc3s])
   ·have hc3s := hc3; try simp only [BL] at hc3s
    obtain ⟨i0, he0, hi0, hp0, -⟩ := (idxF_cases roomB default l).resolve_left fun h => hc3s (by omega)
    have hku : (idxF roomB l).toNat < l.length := by omega
    have hmt : (mkTag l (Int.toNat (idxF roomB l)) tag).length = l.length := mkTag_len
    have hma : (mkAt l (Int.toNat (idxF roomB l)) tag).length = l.length := mkAt_len
    have hei : (idxF roomB l).toNat = i0 := by omega
    have hus := (uses_ok hc1s hi0)
    have hul := (roomB_lt hp0).2
    refine Sk <| Sq <| Rt <| U (LBA (V rfl) rfl Ga24 Sz24 (by decide)) <| CM (cargs := [SV.agg 1 (stG l)]) [] [(0, 7)] en115 (mv0 (by exact ⟨⟨(Vi (g' := stG l) (V rfl) ⟨Z, Ir⟩), rfl⟩, Z⟩)) (copy_ct l (by omega) (by assumption)) (by exact Z) rfl rfl rfl rfl <| StA (V rfl) rfl (V rfl) Sz24 <| Nt <| Sq <| Rq <| O (FlB _ _ (V rfl) Un24 rfl 0 Sz22) <| O (LdB (V rfl) rfl Ga22 (by decide)) <| O (Mv (V rfl)) <| O (IxO (V rfl) rfl (V rfl) ts22 te22 (by omega) (by first | omega | (simp only [List.length_set, mkTag_len, mkAt_len]; omega))) <| O (As (V rfl)) <| Nq <| Sq <| Rt <| U (Mv (V rfl)) <| U (Mv (V rfl)) <| U (Mv (V rfl)) <| U (q_nilO (V rfl)) <| U (FlO _ _ (V rfl) Un61 rfl 0 Sz4) <| ?_
    have hidx0 : Int.toNat (idxF roomB l) < l.length := by first | omega | (simp; omega)
    refine StO (rowG ndCell default (l.set (Int.toNat (idxF roomB l)) ({ (l.getD (Int.toNat (idxF roomB l)) default) with used := true }))) (V rfl) rfl K rfl rfl Sz4 (by decide) (show l.length = (l.set (Int.toNat (idxF roomB l)) ({ (l.getD (Int.toNat (idxF roomB l)) default) with used := true })).length from List.length_set.symm) (set_at hidx0 rfl) (set_typed hidx0 fun t ht hne => match t, ht, hne with | 0, _, hne => absurd rfl hne | 1, _, _ => rfl | 2, _, _ => rfl | 3, _, _ => rfl | 4, _, _ => rfl | 5, _, _ => rfl | 6, _, _ => rfl | 7, _, _ => rfl) <| U (q_nilO (V rfl)) <| U (FlO _ _ (V rfl) Un61 rfl 0 Sz3) <| ?_
    have hidx1 : Int.toNat (idxF roomB l) < (l.set (Int.toNat (idxF roomB l)) ({ (l.getD (Int.toNat (idxF roomB l)) default) with used := true })).length := by first | omega | (simp; omega)
    refine StO (rowG ndCell default ((l.set (Int.toNat (idxF roomB l)) ({ (l.getD (Int.toNat (idxF roomB l)) default) with used := true })).set (Int.toNat (idxF roomB l)) ({ ((l.set (Int.toNat (idxF roomB l)) ({ (l.getD (Int.toNat (idxF roomB l)) default) with used := true })).getD (Int.toNat (idxF roomB l)) default) with tag := tag }))) (V rfl) rfl (V rfl) rfl rfl Sz3 (by decide) (show (l.set (Int.toNat (idxF roomB l)) ({ (l.getD (Int.toNat (idxF roomB l)) default) with used := true })).length = ((l.set (Int.toNat (idxF roomB l)) ({ (l.getD (Int.toNat (idxF roomB l)) default) with used := true })).set (Int.toNat (idxF roomB l)) ({ ((l.set (Int.toNat (idxF roomB l)) ({ (l.getD (Int.toNat (idxF roomB l)) default) with used := true })).getD (Int.toNat (idxF roomB l)) default) with tag := tag })).length from List.length_set.symm) (set_at hidx1 rfl) (set_typed hidx1 fun t ht hne => match t, ht, hne with | 0, _, _ => rfl | 1, _, _ => rfl | 2, _, hne => absurd rfl hne | 3, _, _ => rfl | 4, _, _ => rfl | 5, _, _ => rfl | 6, _, _ => rfl | 7, _, _ => rfl) <| Nt <| Sq <| c_ownE 7 (mkTag l (Int.toNat (idxF roomB l)) tag) rfl (by exact mkTag_eq hku) <| Rt <| U (Mv (V rfl)) <| U (q_nilO (V rfl)) <| U (FlO _ _ (V rfl) Un61 rfl 0 Sz3) <| U (LdO (V rfl) rfl Ga3 (by decide)) <| U (Ad (V rfl) K (by rw [mkTag_uses hku, hei]; omega)) <| U (q_nilO (V rfl)) <| U (FlO _ _ (V rfl) Un61 rfl 0 Sz3) <| ?_
    have hidx2 : Int.toNat (idxF roomB l) < (mkTag l (Int.toNat (idxF roomB l)) tag).length := by first | omega | (simp; omega)
    refine StO (rowG ndCell default ((mkTag l (Int.toNat (idxF roomB l)) tag).set (Int.toNat (idxF roomB l)) ({ ((mkTag l (Int.toNat (idxF roomB l)) tag).getD (Int.toNat (idxF roomB l)) default) with uses := (((mkTag l (Int.toNat (idxF roomB l)) tag).getD (Int.toNat (idxF roomB l)) default).uses) + 1 }))) (V rfl) rfl (V rfl) rfl rfl Sz3 (by decide) (show (mkTag l (Int.toNat (idxF roomB l)) tag).length = ((mkTag l (Int.toNat (idxF roomB l)) tag).set (Int.toNat (idxF roomB l)) ({ ((mkTag l (Int.toNat (idxF roomB l)) tag).getD (Int.toNat (idxF roomB l)) default) with uses := (((mkTag l (Int.toNat (idxF roomB l)) tag).getD (Int.toNat (idxF roomB l)) default).uses) + 1 })).length from List.length_set.symm) (set_at hidx2 rfl) (set_typed hidx2 fun t ht hne => match t, ht, hne with | 0, _, _ => rfl | 1, _, hne => absurd rfl hne | 2, _, _ => rfl | 3, _, _ => rfl | 4, _, _ => rfl | 5, _, _ => rfl | 6, _, _ => rfl | 7, _, _ => rfl) <| Nt <| Sq <| c_ownE 7 (mkAt l (Int.toNat (idxF roomB l)) tag) rfl (by exact mkAt_eq hku) <| c_rd (fun e => ⟨[(52, cj (e 0) (SV.agg 1 (fun zi => (fun zt => SV.renm (rn [(0, 7)]) ((cmpG [SV.own 0]) zt)) (0 + zi)))), (53, cj (e 1) (iv (idxF roomB l))), (54, cj (e 2) (SV.oe 7 8 (Int.toNat (idxF roomB l)) 0)), (55, cj (e 3) (SV.oe 7 8 (Int.toNat (idxF roomB l)) 0)), (56, cj (e 4) (SV.oe 7 8 (Int.toNat (idxF roomB l)) 1)), (57, cj (e 5) (iv (((mkAt l (Int.toNat (idxF roomB l)) tag).getD (Int.toNat (idxF roomB l)) default).uses))), (58, cj (e 6) (SV.agg 2 (hdCell ⟨idxF roomB l, ((mkAt l (Int.toNat (idxF roomB l)) tag).getD (Int.toNat (idxF roomB l)) default).uses⟩))), (6, cj (e 9) (iv (0))), (2, SV.bp 1 0), (4, SV.bp 2 0), (5, SV.bp 3 0), (8, iv (idxF roomB l)), (9, SV.oe 7 8 (Int.toNat (idxF roomB l)) 0)], (cb (e 7) (cb (e 8) [(1, Own.box 1 (fun zt => SV.renm (rn [(0, 7)]) ((cmpG [SV.own 0]) zt)) 24), (2, Own.box 1 (fun zi => (fun zt => SV.renm (rn [(0, 7)]) ((cmpG [SV.own 0]) zt)) (0 + zi)) 24), (3, Own.box 2 (hdCell ⟨idxF roomB l, ((mkAt l (Int.toNat (idxF roomB l)) tag).getD (Int.toNat (idxF roomB l)) default).uses⟩) 26), (7, ownOf ndCell 8 default (mkAt l (Int.toNat (idxF roomB l)) tag) 61)] [(1, Own.box 1 (fun zt => SV.renm (rn [(0, 7)]) ((cmpG [SV.own 0]) zt)) 24), (2, Own.box 1 (fun zi => (fun zt => SV.renm (rn [(0, 7)]) ((cmpG [SV.own 0]) zt)) (0 + zi)) 24), (3, Own.box 2 (cmpG [iv (0), iv (0)]) 26), (7, ownOf ndCell 8 default (mkAt l (Int.toNat (idxF roomB l)) tag) 61)]) (cb (e 8) [] [(1, Own.box 1 (fun zt => SV.renm (rn [(0, 7)]) ((cmpG [SV.own 0]) zt)) 24), (2, Own.box 1 (cmpG [SV.v (Value.slice none 0 0)]) 24), (3, Own.box 2 (cmpG [iv (0), iv (0)]) 26), (7, ownOf ndCell 8 default (mkAt l (Int.toNat (idxF roomB l)) tag) 61)]))⟩) ⟨[(52, SV.agg 1 (fun zi => (fun zt => SV.renm (rn [(0, 7)]) ((cmpG [SV.own 0]) zt)) (0 + zi))), (53, iv (idxF roomB l)), (54, SV.oe 7 8 (Int.toNat (idxF roomB l)) 0), (55, SV.oe 7 8 (Int.toNat (idxF roomB l)) 0), (56, SV.oe 7 8 (Int.toNat (idxF roomB l)) 1), (57, iv (((mkAt l (Int.toNat (idxF roomB l)) tag).getD (Int.toNat (idxF roomB l)) default).uses)), (58, SV.agg 2 (hdCell ⟨idxF roomB l, ((mkAt l (Int.toNat (idxF roomB l)) tag).getD (Int.toNat (idxF roomB l)) default).uses⟩)), (6, iv (0)), (2, SV.bp 1 0), (4, SV.bp 2 0), (5, SV.bp 3 0), (8, iv (idxF roomB l)), (9, SV.oe 7 8 (Int.toNat (idxF roomB l)) 0)], [(1, Own.box 1 (fun zt => SV.renm (rn [(0, 7)]) ((cmpG [SV.own 0]) zt)) 24), (2, Own.box 1 (fun zi => (fun zt => SV.renm (rn [(0, 7)]) ((cmpG [SV.own 0]) zt)) (0 + zi)) 24), (3, Own.box 2 (hdCell ⟨idxF roomB l, ((mkAt l (Int.toNat (idxF roomB l)) tag).getD (Int.toNat (idxF roomB l)) default).uses⟩) 26), (7, ownOf ndCell 8 default (mkAt l (Int.toNat (idxF roomB l)) tag) 61)]⟩ (by kernel_rfl) (by kernel_rfl) ?_ ⟨?_, ?_, ?_, ?_, ?_, ?_, ?_, ?_, ?_, ?_, Z⟩ ?_ ?_
    ·show Weak _ _ ⟨[(52, SV.junk), (53, SV.junk), (54, SV.junk), (55, SV.junk), (56, SV.junk), (57, SV.junk), (58, SV.junk), (6, SV.junk), (2, SV.bp 1 0), (4, SV.bp 2 0), (5, SV.bp 3 0), (8, iv (idxF roomB l)), (9, SV.oe 7 8 (Int.toNat (idxF roomB l)) 0)], [(1, Own.box 1 (fun zt => SV.renm (rn [(0, 7)]) ((cmpG [SV.own 0]) zt)) 24), (2, Own.box 1 (cmpG [SV.v (Value.slice none 0 0)]) 24), (3, Own.box 2 (cmpG [iv (0), iv (0)]) 26), (7, ownOf ndCell 8 default (mkAt l (Int.toNat (idxF roomB l)) tag) 61)]⟩
     refine We ?_ ?_
     ·exact ⟨Vj, Vj, Vj, Vj, Vj, Vj, Vj, Vj, V rfl, V rfl, V rfl, V rfl, V rfl, Z⟩
     ·exact ⟨⟨_, rfl, ⟨rfl, rfl, (An rfl)⟩⟩, ⟨_, rfl, ⟨rfl, rfl, (An rfl)⟩⟩, ⟨_, rfl, ⟨rfl, rfl, (An rfl)⟩⟩, ⟨_, rfl, rfl⟩, Z⟩
    ·intro e hdn he hdp
     obtain ⟨h7, h8, -⟩ := dns1 hdn he [7, 8] (by kernel_rfl)
     simp only [setE, he, h7, h8, cj_t, cj_f, cjn_t, cjn_f, cb_t, cb_f]
     refine U (LBA (V rfl) rfl Ga24 Sz24 (by decide)) <| Nt <| We ?_ ?_
     ·exact (Vs rfl)
     ·exact ⟨⟨_, rfl, ⟨rfl, rfl, (An rfl)⟩⟩, ⟨_, rfl, ⟨rfl, rfl, (An rfl)⟩⟩, ⟨_, rfl, ⟨rfl, rfl, (An rfl)⟩⟩, ⟨_, rfl, rfl⟩, Z⟩
    ·intro e hdn he hdp
     obtain ⟨-, h8, -⟩ := dns1 hdn he [6, 8] (by kernel_rfl)
     simp only [setE, he, h8, cj_t, cj_f, cjn_t, cjn_f, cb_t, cb_f]
     exact U (Mv (V rfl)) <| Nt <| weakS ⟨V rfl, V rfl, V rfl, V rfl, V rfl, V rfl, V rfl, V rfl, V rfl, V rfl, V rfl, V rfl, V rfl, Z⟩
    ·intro e hdn he hdp
     obtain ⟨-, -, -, -, h8, -⟩ := dns1 hdn he [3, 4, 5, 6, 8] (by kernel_rfl)
     simp only [setE, he, h8, cj_t, cj_f, cjn_t, cjn_f, cb_t, cb_f]
     exact U (Mv (V rfl)) <| Nt <| weakS ⟨V rfl, V rfl, V rfl, V rfl, V rfl, V rfl, V rfl, V rfl, V rfl, V rfl, V rfl, V rfl, V rfl, Z⟩
    ·intro e hdn he hdp
     obtain ⟨h2, -⟩ := ups hdn [2] hdp (by kernel_rfl)
     obtain ⟨-, -, -, h8, -⟩ := dns1 hdn he [4, 5, 6, 8] (by kernel_rfl)
     cases hu7 : e 7
     ·simp only [setE, h2, he, h8, hu7, cj_t, cj_f, cjn_t, cjn_f, cb_t, cb_f]
      refine U (q_nilO (V rfl)) <| Nt <| We ?_ ?_
      ·exact (Vs rfl)
      ·exact ⟨⟨_, rfl, ⟨rfl, rfl, (An rfl)⟩⟩, ⟨_, rfl, ⟨rfl, rfl, (An rfl)⟩⟩, ⟨_, rfl, ⟨rfl, rfl, (An rfl)⟩⟩, ⟨_, rfl, rfl⟩, Z⟩
     ·simp only [setE, h2, he, h8, hu7, cj_t, cj_f, cjn_t, cjn_f, cb_t, cb_f]
      refine U (q_nilO (V rfl)) <| Nt <| We ?_ ?_
      ·exact (Vs rfl)
      ·exact ⟨⟨_, rfl, ⟨rfl, rfl, (An rfl)⟩⟩, ⟨_, rfl, ⟨rfl, rfl, (An rfl)⟩⟩, ⟨_, rfl, ⟨rfl, rfl, (An rfl)⟩⟩, ⟨_, rfl, rfl⟩, Z⟩
    ·intro e hdn he hdp
     obtain ⟨h3, h2, -⟩ := ups hdn [3, 2] hdp (by kernel_rfl)
     obtain ⟨-, -, h8, -⟩ := dns1 hdn he [5, 6, 8] (by kernel_rfl)
     simp only [setE, h2, h3, he, h8, cj_t, cj_f, cjn_t, cjn_f, cb_t, cb_f]
     exact U (FlO _ _ (V rfl) Un61 rfl 0 Sz3) <| Nt <| weakS ⟨V rfl, V rfl, V rfl, V rfl, V rfl, V rfl, V rfl, V rfl, V rfl, V rfl, V rfl, V rfl, V rfl, Z⟩
    ·intro e hdn he hdp
     obtain ⟨h4, h3, h2, -⟩ := ups hdn [4, 3, 2] hdp (by kernel_rfl)
     obtain ⟨-, h8, -⟩ := dns1 hdn he [6, 8] (by kernel_rfl)
     cases hu7 : e 7
     ·simp only [setE, h2, h3, h4, he, h8, hu7, cj_t, cj_f, cjn_t, cjn_f, cb_t, cb_f]
      refine U (LdO (V rfl) rfl Ga3 (by decide)) <| Nt <| We ?_ ?_
      ·exact (Vs rfl)
      ·exact ⟨⟨_, rfl, ⟨rfl, rfl, (An rfl)⟩⟩, ⟨_, rfl, ⟨rfl, rfl, (An rfl)⟩⟩, ⟨_, rfl, ⟨rfl, rfl, (An rfl)⟩⟩, ⟨_, rfl, rfl⟩, Z⟩
     ·simp only [setE, h2, h3, h4, he, h8, hu7, cj_t, cj_f, cjn_t, cjn_f, cb_t, cb_f]
      refine U (LdO (V rfl) rfl Ga3 (by decide)) <| Nt <| We ?_ ?_
      ·exact (Vs rfl)
      ·exact ⟨⟨_, rfl, ⟨rfl, rfl, (An rfl)⟩⟩, ⟨_, rfl, ⟨rfl, rfl, (An rfl)⟩⟩, ⟨_, rfl, ⟨rfl, rfl, (An rfl)⟩⟩, ⟨_, rfl, rfl⟩, Z⟩
    ·intro e hdn he hdp
     obtain ⟨h5, h4, h3, h2, h1, -⟩ := ups hdn [5, 4, 3, 2, 1] hdp (by kernel_rfl)
     obtain ⟨h8, -⟩ := dns1 hdn he [8] (by kernel_rfl)
     simp only [setE, h1, h2, h3, h4, h5, he, h8, cj_t, cj_f, cjn_t, cjn_f, cb_t, cb_f]
     exact U (Bu [(0, iv (idxF roomB l)), (1, iv (((mkAt l (Int.toNat (idxF roomB l)) tag).getD (Int.toNat (idxF roomB l)) default).uses))] id (hdCell ⟨idxF roomB l, ((mkAt l (Int.toNat (idxF roomB l)) tag).getD (Int.toNat (idxF roomB l)) default).uses⟩) zero26 build26 (by exact ⟨⟨rfl, (V rfl), rfl⟩, ⟨rfl, (V rfl), rfl⟩, Z⟩) (by decide) ⟨⟨Z, rfl⟩, rfl⟩) <| Nt <| weakS ⟨V rfl, V rfl, V rfl, V rfl, V rfl, V rfl, V rfl, V rfl, V rfl, V rfl, V rfl, V rfl, V rfl, Z⟩
    ·intro e hdn he hdp
     obtain ⟨h0, -⟩ := ups hdn [0] hdp (by kernel_rfl)
     obtain ⟨h8, -⟩ := dns1 hdn he [8] (by kernel_rfl)
     simp only [setE, h0, he, h8, cj_t, cj_f, cjn_t, cjn_f, cb_t, cb_f]
     refine StA (V rfl) rfl (V rfl) Sz24 <| Nt <| We ?_ ?_
     ·exact (Vs rfl)
     ·exact ⟨⟨_, rfl, ⟨rfl, rfl, (An rfl)⟩⟩, ⟨_, rfl, ⟨rfl, rfl, (An rfl)⟩⟩, ⟨_, rfl, ⟨rfl, rfl, (An rfl)⟩⟩, ⟨_, rfl, rfl⟩, Z⟩
    ·intro e hdn he hdp
     obtain ⟨h7, h6, h5, h4, h3, h2, h1, h0, -⟩ := ups hdn [7, 6, 5, 4, 3, 2, 1, 0] hdp (by kernel_rfl)
     simp only [setE, h0, h1, h2, h3, h4, h5, h6, h7, he, cj_t, cj_f, cjn_t, cjn_f, cb_t, cb_f]
     refine StA (V rfl) rfl (V rfl) Sz26 <| Nt <| We ?_ ?_
     ·exact (Vs rfl)
     ·exact ⟨⟨_, rfl, ⟨rfl, rfl, (An rfl)⟩⟩, ⟨_, rfl, ⟨rfl, rfl, (An rfl)⟩⟩, ⟨_, rfl, ⟨rfl, rfl, (An rfl)⟩⟩, ⟨_, rfl, rfl⟩, Z⟩
    ·intro e hdn he hdp
     obtain ⟨h8, h7, h6, h5, h4, h3, h2, h1, h0, -⟩ := ups hdn [8, 7, 6, 5, 4, 3, 2, 1, 0] hdp (by kernel_rfl)
     simp only [setE, h0, h1, h2, h3, h4, h5, h6, h7, h8, he, cj_t, cj_f, cjn_t, cjn_f, cb_t, cb_f]
     refine U (As K) <| Nt <| We ?_ ?_
     ·exact (Vs rfl)
     ·exact ⟨⟨_, rfl, ⟨rfl, rfl, (An rfl)⟩⟩, ⟨_, rfl, ⟨rfl, rfl, (An rfl)⟩⟩, ⟨_, rfl, ⟨rfl, rfl, (An rfl)⟩⟩, ⟨_, rfl, rfl⟩, Z⟩
    ·intro e he
     have h0 := he 0 (by decide)
     have h1 := he 1 (by decide)
     have h2 := he 2 (by decide)
     have h3 := he 3 (by decide)
     have h4 := he 4 (by decide)
     have h5 := he 5 (by decide)
     have h6 := he 6 (by decide)
     have h7 := he 7 (by decide)
     have h8 := he 8 (by decide)
     have h9 := he 9 (by decide)
     show Weak _ ⟨[(52, cj (e 0) (SV.agg 1 (fun zi => (fun zt => SV.renm (rn [(0, 7)]) ((cmpG [SV.own 0]) zt)) (0 + zi)))), (53, cj (e 1) (iv (idxF roomB l))), (54, cj (e 2) (SV.oe 7 8 (Int.toNat (idxF roomB l)) 0)), (55, cj (e 3) (SV.oe 7 8 (Int.toNat (idxF roomB l)) 0)), (56, cj (e 4) (SV.oe 7 8 (Int.toNat (idxF roomB l)) 1)), (57, cj (e 5) (iv (((mkAt l (Int.toNat (idxF roomB l)) tag).getD (Int.toNat (idxF roomB l)) default).uses))), (58, cj (e 6) (SV.agg 2 (hdCell ⟨idxF roomB l, ((mkAt l (Int.toNat (idxF roomB l)) tag).getD (Int.toNat (idxF roomB l)) default).uses⟩))), (6, cj (e 9) (iv (0))), (2, SV.bp 1 0), (4, SV.bp 2 0), (5, SV.bp 3 0), (8, iv (idxF roomB l)), (9, SV.oe 7 8 (Int.toNat (idxF roomB l)) 0)], (cb (e 7) (cb (e 8) [(1, Own.box 1 (fun zt => SV.renm (rn [(0, 7)]) ((cmpG [SV.own 0]) zt)) 24), (2, Own.box 1 (fun zi => (fun zt => SV.renm (rn [(0, 7)]) ((cmpG [SV.own 0]) zt)) (0 + zi)) 24), (3, Own.box 2 (hdCell ⟨idxF roomB l, ((mkAt l (Int.toNat (idxF roomB l)) tag).getD (Int.toNat (idxF roomB l)) default).uses⟩) 26), (7, ownOf ndCell 8 default (mkAt l (Int.toNat (idxF roomB l)) tag) 61)] [(1, Own.box 1 (fun zt => SV.renm (rn [(0, 7)]) ((cmpG [SV.own 0]) zt)) 24), (2, Own.box 1 (fun zi => (fun zt => SV.renm (rn [(0, 7)]) ((cmpG [SV.own 0]) zt)) (0 + zi)) 24), (3, Own.box 2 (cmpG [iv (0), iv (0)]) 26), (7, ownOf ndCell 8 default (mkAt l (Int.toNat (idxF roomB l)) tag) 61)]) (cb (e 8) [] [(1, Own.box 1 (fun zt => SV.renm (rn [(0, 7)]) ((cmpG [SV.own 0]) zt)) 24), (2, Own.box 1 (cmpG [SV.v (Value.slice none 0 0)]) 24), (3, Own.box 2 (cmpG [iv (0), iv (0)]) 26), (7, ownOf ndCell 8 default (mkAt l (Int.toNat (idxF roomB l)) tag) 61)]))⟩ _
     simp only [h0, h1, h2, h3, h4, h5, h6, h7, h8, h9]
     show Weak _ ⟨[(52, SV.agg 1 (fun zi => (fun zt => SV.renm (rn [(0, 7)]) ((cmpG [SV.own 0]) zt)) (0 + zi))), (53, iv (idxF roomB l)), (54, SV.oe 7 8 (Int.toNat (idxF roomB l)) 0), (55, SV.oe 7 8 (Int.toNat (idxF roomB l)) 0), (56, SV.oe 7 8 (Int.toNat (idxF roomB l)) 1), (57, iv (((mkAt l (Int.toNat (idxF roomB l)) tag).getD (Int.toNat (idxF roomB l)) default).uses)), (58, SV.agg 2 (hdCell ⟨idxF roomB l, ((mkAt l (Int.toNat (idxF roomB l)) tag).getD (Int.toNat (idxF roomB l)) default).uses⟩)), (6, iv (0)), (2, SV.bp 1 0), (4, SV.bp 2 0), (5, SV.bp 3 0), (8, iv (idxF roomB l)), (9, SV.oe 7 8 (Int.toNat (idxF roomB l)) 0)], [(1, Own.box 1 (fun zt => SV.renm (rn [(0, 7)]) ((cmpG [SV.own 0]) zt)) 24), (2, Own.box 1 (fun zi => (fun zt => SV.renm (rn [(0, 7)]) ((cmpG [SV.own 0]) zt)) (0 + zi)) 24), (3, Own.box 2 (hdCell ⟨idxF roomB l, ((mkAt l (Int.toNat (idxF roomB l)) tag).getD (Int.toNat (idxF roomB l)) default).uses⟩) 26), (7, ownOf ndCell 8 default (mkAt l (Int.toNat (idxF roomB l)) tag) 61)]⟩ _
     refine We ?_ ?_
     ·exact ⟨Va (V rfl) (An rfl), V rfl, V rfl, V rfl, V rfl, V rfl, Va (V rfl) (An rfl), V rfl, V rfl, V rfl, V rfl, V rfl, V rfl, Z⟩
     ·exact ⟨⟨_, rfl, ⟨rfl, rfl, (An rfl)⟩⟩, ⟨_, rfl, ⟨rfl, rfl, (An rfl)⟩⟩, ⟨_, rfl, ⟨rfl, rfl, (An rfl)⟩⟩, ⟨_, rfl, rfl⟩, Z⟩
    exact c_mv 7 0 rfl rfl <| c_ownE 0 ((mkSt l tag).1) rfl (by rw [mk_4 hc1s (by omega) hc3s]) <| Rx <| RM3 rfl (rv_aggI (g' := cmpG [SV.own 0]) (rv_cell (V rfl) rfl Ga24 Sz24) ⟨Z, Ir⟩) (rv_aggI (g' := hdCell ⟨idxF roomB l, ((mkAt l (Int.toNat (idxF roomB l)) tag).getD (Int.toNat (idxF roomB l)) default).uses⟩) (rv_cell (V rfl) rfl Ga26 Sz26) ⟨⟨Z, Ir⟩, Ir⟩) (rv_tmp (V rfl)) (by exact ⟨⟨_, rfl, rfl⟩, Z⟩) (by show sv3 (SV.agg 1 (cmpG [SV.own 0])) (SV.agg 2 (hdCell ⟨idxF roomB l, ((mkAt l (Int.toNat (idxF roomB l)) tag).getD (Int.toNat (idxF roomB l)) default).uses⟩)) (iv (0)) = sv3 (SV.agg 1 (cmpG [SV.own 0])) (SV.agg 2 (hdCell ((mkSt l tag).2.1))) (iv ((mkSt l tag).2.2)); rw [mk_4 hc1s (by omega) hc3s, mkAt_uses hku])
theorem attK_ct (x : Nd) (h : Hd) : Ct Try.prog 135 [SV.agg 8 (ndCell x), elB [iv (h.pl), iv (h.use)] 0] (bv (decide (x.host = h.pl))) := by
 exact CtO 9 Try.func135 rfl rfl rfl fun E => row_lenA 5 (V (s := 0) rfl) rfl rfl fun hl0_5 => Sq <| Rt <| BxA 1 (V rfl) rfl rfl <| U (As K) <| Nt <| Sq <| Rq <| O (FlB _ _ (V rfl) Un61 rfl 0 Sz3) <| O (LdB (V rfl) rfl Ga3 (by decide)) <| O (Fl _ _ (V rfl) Un26 rfl 0 Sz3) <| O (Ld (V rfl) Ga3 (by show 0 < 2; decide)) <| O (Ql (V rfl) (V rfl)) <| O (As (V rfl)) <| Nq <| Rx <| R1 rfl (V rfl) rfl (by show bv (decide (x.host = h.pl)) = bv (decide (x.host = h.pl)); rfl)
theorem attach_ct (l : List Nd) (h : Hd) (cl : Bool) (hb : ∀ n ∈ l, n.kids.length ≤ 17592186043904) : Ct Try.prog 74 [SV.agg 1 (stG l), SV.agg 2 (hdCell h), bv (cl)] (sv3 (SV.agg 1 (stG (attSt l h cl).1)) (SV.agg 2 (hdCell (attSt l h cl).2.1)) (iv (attSt l h cl).2.2)) := by
 refine CtO 58 Try.func74 rfl rfl rfl fun E => row_lenA 0 (V (s := 0) rfl) rfl rfl fun hl0_0 => Sq <| Rt <| BxA 1 (V rfl) rfl rfl <| BxA 2 (V rfl) rfl rfl <| Al 3 zero24 rfl rfl <| Al 4 zero26 rfl rfl <| U (As K) <| Nt <| Sq <| Sq <| c_frzB 2 [iv (h.pl), iv (h.use)] rfl rfl ⟨⟨Z, rfl⟩, rfl⟩ rfl <| Rt <| U (LBA (V rfl) rfl Ga24 Sz24 (by decide)) <| U (LdA (V rfl) Ga26 Sz26 (by show 0 + 2 ≤ 2; decide)) <| CT en46 (by exact ⟨⟨(Vi (g' := stG l) (V rfl) ⟨Z, Ir⟩), rfl⟩, ⟨(Vi (g' := hdCell ⟨h.pl, h.use⟩) (V rfl) ⟨⟨Z, Ir⟩, Ir⟩), rfl⟩, Z⟩) (find_ct l h (by first | assumption | exact kb_nil | exact kb_of (by assumption) | exact kb_of fam_c5)) <| U (Mv (V rfl)) <| U (Xt (V rfl) (by decide)) <| U (Xt (V rfl) (by decide)) <| Al 5 zero61 rfl rfl <| StA (V rfl) rfl (V rfl) Sz61 <| U (As (V rfl)) <| Nt <| Sq <| Rq <| O (Mv (V rfl)) <| O (Qn (V rfl) K) <| Nq <| Cd (V rfl) (fun hc1 => ?_) (fun hc1 => ?_)
 ·have hc1s := hc1; try simp only [BL] at hc1s
  exact Sq <| Rt <| U (Bu [] id (cmpG [SV.v (Value.slice none 0 0)]) zero24 build24 (by exact Z) (by decide) ⟨Z, rfl⟩) <| U (Bu [] id (hdCell ⟨0, 0⟩) zero26 build26 (by exact Z) (by decide) ⟨⟨Z, rfl⟩, rfl⟩) <| U (Mv (V rfl)) <| StA (V rfl) rfl (V rfl) Sz24 <| StA (V rfl) rfl (V rfl) Sz26 <| U (As (V rfl)) <| Nt <| Rx <| RR3 rfl (rv_aggI (g' := stG ([])) (rv_cell (V rfl) rfl Ga24 Sz24) ⟨Z, In⟩) (rv_cell (V rfl) rfl Ga26 Sz26) (rv_tmp (V rfl)) rfl rfl rfl (by show sv3 (SV.agg 1 (stG ([]))) (SV.agg 2 (hdCell ⟨0, 0⟩)) (iv ((findSt l h).2)) = sv3 (SV.agg 1 (stG (attSt l h cl).1)) (SV.agg 2 (hdCell (attSt l h cl).2.1)) (iv (attSt l h cl).2.2); rw [att_1 (h := h) (fun q => hc1s ((first_find l h).symm.trans q)), first_find])
 ·have hc1s := hc1; try simp only [BL] at hc1s
  have hf0 : firstSt l [h] = 0 := (first_find l h).trans hc1s
  have hc0 := (first1 hf0).1
  have hpl := (first1 hf0).2.2.1
  refine Sk <| Sq <| Sq <| Rt <| U (FlB _ _ (V rfl) Un24 rfl 0 Sz22) <| U (LdB (V rfl) rfl Ga22 (by decide)) <| U (Mk (caps := [elB [iv (h.pl), iv (h.use)] 0]) ⟨(V rfl), Z⟩) <| CT en116 (by exact ⟨⟨(V rfl), rfl⟩, ⟨(VA (VF [elB [iv (h.pl), iv (h.use)] 0] ((V rfl)) (An rfl)) rfl), rfl⟩, Z⟩) (conf116_ct (fun n => decide (n.host = h.pl)) en135 rfl (fun x => attK_ct x h) l) <| Nt <| Cd (V rfl) (fun hc2 => ?_) (fun hc2 => ?_)
  ·have hc2s := hc2; try simp only [BL] at hc2s
   exact Sq <| Rt <| U (Bu [] id (cmpG [SV.v (Value.slice none 0 0)]) zero24 build24 (by exact Z) (by decide) ⟨Z, rfl⟩) <| U (Bu [] id (hdCell ⟨0, 0⟩) zero26 build26 (by exact Z) (by decide) ⟨⟨Z, rfl⟩, rfl⟩) <| StA (V rfl) rfl (V rfl) Sz24 <| StA (V rfl) rfl (V rfl) Sz26 <| U (As K) <| Nt <| Rx <| RR3 rfl (rv_aggI (g' := stG ([])) (rv_cell (V rfl) rfl Ga24 Sz24) ⟨Z, In⟩) (rv_cell (V rfl) rfl Ga26 Sz26) (rv_tmp (V rfl)) rfl rfl rfl (by show sv3 (SV.agg 1 (stG ([]))) (SV.agg 2 (hdCell ⟨0, 0⟩)) (iv (6)) = sv3 (SV.agg 1 (stG (attSt l h cl).1)) (SV.agg 2 (hdCell (attSt l h cl).2.1)) (iv (attSt l h cl).2.2); rw [att_2 hf0 hc2])
  ·have hc2s := hc2; try simp only [BL] at hc2s
   refine Sk <| Sq <| Rt <| U (LBA (V rfl) rfl Ga24 Sz24 (by decide)) <| CM (cargs := [SV.agg 1 (stG l), iv (0)]) [] [(0, 6)] en40 (mv0 (by exact ⟨⟨(Vi (g' := stG l) (V rfl) ⟨Z, Ir⟩), rfl⟩, ⟨K, rfl⟩, Z⟩)) (makeO_ct l 0 (by first | assumption | exact kb_of (by assumption))) (by exact Z) rfl rfl rfl rfl <| U (Mv (V rfl)) <| U (Xt (V rfl) (by decide)) <| U (Xt (V rfl) (by decide)) <| U (Xt (V rfl) (by decide)) <| Al 7 zero26 rfl rfl <| StA (V rfl) rfl (V rfl) Sz24 <| StA (V rfl) rfl (V rfl) Sz26 <| U (As (V rfl)) <| Nt <| Sq <| Sq <| Rq <| O (Mv (V rfl)) <| O (Qn (V rfl) K) <| Nq <| Cd (V rfl) (fun hc3 => ?_) (fun hc3 => ?_)
   ·have hc3s := hc3; try simp only [BL] at hc3s
    exact Sq <| Rt <| U (Bu [] id (cmpG [SV.v (Value.slice none 0 0)]) zero24 build24 (by exact Z) (by decide) ⟨Z, rfl⟩) <| U (Bu [] id (hdCell ⟨0, 0⟩) zero26 build26 (by exact Z) (by decide) ⟨⟨Z, rfl⟩, rfl⟩) <| U (Mv (V rfl)) <| StA (V rfl) rfl (V rfl) Sz24 <| StA (V rfl) rfl (V rfl) Sz26 <| U (As (V rfl)) <| Nt <| Rx <| RR3 rfl (rv_aggI (g' := stG ([])) (rv_cell (V rfl) rfl Ga24 Sz24) ⟨Z, In⟩) (rv_cell (V rfl) rfl Ga26 Sz26) (rv_tmp (V rfl)) rfl rfl rfl (by show sv3 (SV.agg 1 (stG ([]))) (SV.agg 2 (hdCell ⟨0, 0⟩)) (iv ((mkSt l 0).2.2)) = sv3 (SV.agg 1 (stG (attSt l h cl).1)) (SV.agg 2 (hdCell (attSt l h cl).2.1)) (iv (attSt l h cl).2.2); rw [att_3 hf0 hc2 hc3s])
   ·have hc3s := hc3; try simp only [BL] at hc3s
    have hmk := mk_in hc3s
    refine Sk <| Sq <| c_rd (fun e => ⟨[(41, cj (e 0) (SV.bp 1 0)), (42, cj (e 1) (SV.own 6)), (43, cj (e 2) (SV.bp 7 0)), (44, cj (e 3) (iv ((mkSt l 0).2.1.pl))), (45, cj (e 4) (SV.bp 1 0)), (46, cj (e 5) (SV.own 6)), (47, cj (e 6) (SV.bp 7 0)), (48, cj (e 7) (iv ((mkSt l 0).2.1.pl))), (49, cj (e 8) (elB [iv (h.pl), iv (h.use)] 0)), (50, cj (e 9) (iv (h.pl))), (51, cj (e 10) (bv (cl))), (52, cj (e 11) (SV.oe 6 8 (Int.toNat ((mkSt l 0).2.1.pl)) 0)), (53, cj (e 12) (SV.oe 6 8 (Int.toNat ((mkSt l 0).2.1.pl)) 6)), (54, cj (e 14) (SV.oe 6 8 (Int.toNat ((mkSt l 0).2.1.pl)) 0)), (55, cj (e 15) (SV.oe 6 8 (Int.toNat ((mkSt l 0).2.1.pl)) 7)), (2, bv (cl)), (3, SV.bp 1 0), (4, elB [iv (h.pl), iv (h.use)] 0), (6, SV.bp 3 0), (7, SV.bp 4 0), (11, SV.bp 7 0)], (cb (e 13) (cb (e 16) [(1, Own.box 1 (fun zt => SV.renm (rn [(0, 6)]) ((cmpG [SV.own 0]) zt)) 24), (3, Own.box 1 (cmpG [SV.v (Value.slice none 0 0)]) 24), (4, Own.box 2 (cmpG [iv (0), iv (0)]) 26), (6, ownOf ndCell 8 default ((((mkSt l 0).1).set (Int.toNat ((mkSt l 0).2.1.pl)) ({ (((mkSt l 0).1).getD (Int.toNat ((mkSt l 0).2.1.pl)) default) with host := h.pl })).set (Int.toNat ((mkSt l 0).2.1.pl)) ({ ((((mkSt l 0).1).set (Int.toNat ((mkSt l 0).2.1.pl)) ({ (((mkSt l 0).1).getD (Int.toNat ((mkSt l 0).2.1.pl)) default) with host := h.pl })).getD (Int.toNat ((mkSt l 0).2.1.pl)) default) with closed := cl })) 61), (7, Own.box 2 (hdCell ((mkSt l 0).2.1)) 26)] [(1, Own.box 1 (fun zt => SV.renm (rn [(0, 6)]) ((cmpG [SV.own 0]) zt)) 24), (3, Own.box 1 (cmpG [SV.v (Value.slice none 0 0)]) 24), (4, Own.box 2 (cmpG [iv (0), iv (0)]) 26), (6, ownOf ndCell 8 default (((mkSt l 0).1).set (Int.toNat ((mkSt l 0).2.1.pl)) ({ (((mkSt l 0).1).getD (Int.toNat ((mkSt l 0).2.1.pl)) default) with host := h.pl })) 61), (7, Own.box 2 (hdCell ((mkSt l 0).2.1)) 26)]) (cb (e 16) [] [(1, Own.box 1 (fun zt => SV.renm (rn [(0, 6)]) ((cmpG [SV.own 0]) zt)) 24), (3, Own.box 1 (cmpG [SV.v (Value.slice none 0 0)]) 24), (4, Own.box 2 (cmpG [iv (0), iv (0)]) 26), (6, ownOf ndCell 8 default ((mkSt l 0).1) 61), (7, Own.box 2 (hdCell ((mkSt l 0).2.1)) 26)]))⟩) ⟨[(41, SV.bp 1 0), (42, SV.own 6), (43, SV.bp 7 0), (44, iv ((mkSt l 0).2.1.pl)), (45, SV.bp 1 0), (46, SV.own 6), (47, SV.bp 7 0), (48, iv ((mkSt l 0).2.1.pl)), (49, elB [iv (h.pl), iv (h.use)] 0), (50, iv (h.pl)), (51, bv (cl)), (52, SV.oe 6 8 (Int.toNat ((mkSt l 0).2.1.pl)) 0), (53, SV.oe 6 8 (Int.toNat ((mkSt l 0).2.1.pl)) 6), (54, SV.oe 6 8 (Int.toNat ((mkSt l 0).2.1.pl)) 0), (55, SV.oe 6 8 (Int.toNat ((mkSt l 0).2.1.pl)) 7), (2, bv (cl)), (3, SV.bp 1 0), (4, elB [iv (h.pl), iv (h.use)] 0), (6, SV.bp 3 0), (7, SV.bp 4 0), (11, SV.bp 7 0)], [(1, Own.box 1 (fun zt => SV.renm (rn [(0, 6)]) ((cmpG [SV.own 0]) zt)) 24), (3, Own.box 1 (cmpG [SV.v (Value.slice none 0 0)]) 24), (4, Own.box 2 (cmpG [iv (0), iv (0)]) 26), (6, ownOf ndCell 8 default ((((mkSt l 0).1).set (Int.toNat ((mkSt l 0).2.1.pl)) ({ (((mkSt l 0).1).getD (Int.toNat ((mkSt l 0).2.1.pl)) default) with host := h.pl })).set (Int.toNat ((mkSt l 0).2.1.pl)) ({ ((((mkSt l 0).1).set (Int.toNat ((mkSt l 0).2.1.pl)) ({ (((mkSt l 0).1).getD (Int.toNat ((mkSt l 0).2.1.pl)) default) with host := h.pl })).getD (Int.toNat ((mkSt l 0).2.1.pl)) default) with closed := cl })) 61), (7, Own.box 2 (hdCell ((mkSt l 0).2.1)) 26)]⟩ (by kernel_rfl) (by kernel_rfl) ?_ ⟨?_, ?_, ?_, ?_, ?_, ?_, ?_, ?_, ?_, ?_, ?_, ?_, ?_, ?_, ?_, ?_, ?_, Z⟩ ?_ ?_
    ·show Weak _ _ ⟨[(41, SV.junk), (42, SV.junk), (43, SV.junk), (44, SV.junk), (45, SV.junk), (46, SV.junk), (47, SV.junk), (48, SV.junk), (49, SV.junk), (50, SV.junk), (51, SV.junk), (52, SV.junk), (53, SV.junk), (54, SV.junk), (55, SV.junk), (2, bv (cl)), (3, SV.bp 1 0), (4, elB [iv (h.pl), iv (h.use)] 0), (6, SV.bp 3 0), (7, SV.bp 4 0), (11, SV.bp 7 0)], [(1, Own.box 1 (fun zt => SV.renm (rn [(0, 6)]) ((cmpG [SV.own 0]) zt)) 24), (3, Own.box 1 (cmpG [SV.v (Value.slice none 0 0)]) 24), (4, Own.box 2 (cmpG [iv (0), iv (0)]) 26), (6, ownOf ndCell 8 default ((mkSt l 0).1) 61), (7, Own.box 2 (hdCell ((mkSt l 0).2.1)) 26)]⟩
     refine We ?_ ?_
     ·exact ⟨Vj, Vj, Vj, Vj, Vj, Vj, Vj, Vj, Vj, Vj, Vj, Vj, Vj, Vj, Vj, V rfl, V rfl, V rfl, V rfl, V rfl, V rfl, Z⟩
     ·exact ⟨⟨_, rfl, ⟨rfl, rfl, (An rfl)⟩⟩, ⟨_, rfl, ⟨rfl, rfl, (An rfl)⟩⟩, ⟨_, rfl, ⟨rfl, rfl, (An rfl)⟩⟩, ⟨_, rfl, rfl⟩, ⟨_, rfl, ⟨rfl, rfl, (An rfl)⟩⟩, Z⟩
    ·intro e hdn he hdp
     obtain ⟨-, -, -, h13, -, -, h16, -⟩ := dns1 hdn he [1, 11, 12, 13, 14, 15, 16] (by kernel_rfl)
     simp only [setE, he, h13, h16, cj_t, cj_f, cjn_t, cjn_f, cb_t, cb_f]
     refine U (FlB _ _ (V rfl) Un24 rfl 0 Sz22) <| Nt <| We ?_ ?_
     ·exact (Vs rfl)
     ·exact ⟨⟨_, rfl, ⟨rfl, rfl, (An rfl)⟩⟩, ⟨_, rfl, ⟨rfl, rfl, (An rfl)⟩⟩, ⟨_, rfl, ⟨rfl, rfl, (An rfl)⟩⟩, ⟨_, rfl, rfl⟩, ⟨_, rfl, ⟨rfl, rfl, (An rfl)⟩⟩, Z⟩
    ·intro e hdn he hdp
     obtain ⟨h0, -⟩ := ups hdn [0] hdp (by kernel_rfl)
     obtain ⟨-, -, h13, -, -, h16, -⟩ := dns1 hdn he [11, 12, 13, 14, 15, 16] (by kernel_rfl)
     simp only [setE, h0, he, h13, h16, cj_t, cj_f, cjn_t, cjn_f, cb_t, cb_f]
     refine U (LdB (V rfl) rfl Ga22 (by decide)) <| Nt <| We ?_ ?_
     ·exact (Vs rfl)
     ·exact ⟨⟨_, rfl, ⟨rfl, rfl, (An rfl)⟩⟩, ⟨_, rfl, ⟨rfl, rfl, (An rfl)⟩⟩, ⟨_, rfl, ⟨rfl, rfl, (An rfl)⟩⟩, ⟨_, rfl, rfl⟩, ⟨_, rfl, ⟨rfl, rfl, (An rfl)⟩⟩, Z⟩
    ·intro e hdn he hdp
     obtain ⟨-, -, -, h13, -, -, h16, -⟩ := dns1 hdn he [3, 11, 12, 13, 14, 15, 16] (by kernel_rfl)
     simp only [setE, he, h13, h16, cj_t, cj_f, cjn_t, cjn_f, cb_t, cb_f]
     refine U (FlB _ _ (V rfl) Un26 rfl 0 Sz3) <| Nt <| We ?_ ?_
     ·exact (Vs rfl)
     ·exact ⟨⟨_, rfl, ⟨rfl, rfl, (An rfl)⟩⟩, ⟨_, rfl, ⟨rfl, rfl, (An rfl)⟩⟩, ⟨_, rfl, ⟨rfl, rfl, (An rfl)⟩⟩, ⟨_, rfl, rfl⟩, ⟨_, rfl, ⟨rfl, rfl, (An rfl)⟩⟩, Z⟩
    ·intro e hdn he hdp
     obtain ⟨h2, -⟩ := ups hdn [2] hdp (by kernel_rfl)
     obtain ⟨-, -, h13, -, -, h16, -⟩ := dns1 hdn he [11, 12, 13, 14, 15, 16] (by kernel_rfl)
     simp only [setE, h2, he, h13, h16, cj_t, cj_f, cjn_t, cjn_f, cb_t, cb_f]
     refine U (LdB (V rfl) rfl Ga3 (by decide)) <| Nt <| We ?_ ?_
     ·exact (Vs rfl)
     ·exact ⟨⟨_, rfl, ⟨rfl, rfl, (An rfl)⟩⟩, ⟨_, rfl, ⟨rfl, rfl, (An rfl)⟩⟩, ⟨_, rfl, ⟨rfl, rfl, (An rfl)⟩⟩, ⟨_, rfl, rfl⟩, ⟨_, rfl, ⟨rfl, rfl, (An rfl)⟩⟩, Z⟩
    ·intro e hdn he hdp
     obtain ⟨-, -, -, h16, -⟩ := dns1 hdn he [5, 14, 15, 16] (by kernel_rfl)
     simp only [setE, he, h16, cj_t, cj_f, cjn_t, cjn_f, cb_t, cb_f]
     exact U (FlB _ _ (V rfl) Un24 rfl 0 Sz22) <| Nt <| weakS ⟨V rfl, V rfl, V rfl, V rfl, V rfl, V rfl, V rfl, V rfl, V rfl, V rfl, V rfl, V rfl, V rfl, V rfl, V rfl, V rfl, V rfl, V rfl, V rfl, V rfl, V rfl, Z⟩
    ·intro e hdn he hdp
     obtain ⟨h4, -⟩ := ups hdn [4] hdp (by kernel_rfl)
     obtain ⟨-, -, h16, -⟩ := dns1 hdn he [14, 15, 16] (by kernel_rfl)
     cases hu13 : e 13
     ·simp only [setE, h4, he, h16, hu13, cj_t, cj_f, cjn_t, cjn_f, cb_t, cb_f]
      refine U (LdB (V rfl) rfl Ga22 (by decide)) <| Nt <| We ?_ ?_
      ·exact (Vs rfl)
      ·exact ⟨⟨_, rfl, ⟨rfl, rfl, (An rfl)⟩⟩, ⟨_, rfl, ⟨rfl, rfl, (An rfl)⟩⟩, ⟨_, rfl, ⟨rfl, rfl, (An rfl)⟩⟩, ⟨_, rfl, rfl⟩, ⟨_, rfl, ⟨rfl, rfl, (An rfl)⟩⟩, Z⟩
     ·simp only [setE, h4, he, h16, hu13, cj_t, cj_f, cjn_t, cjn_f, cb_t, cb_f]
      refine U (LdB (V rfl) rfl Ga22 (by decide)) <| Nt <| We ?_ ?_
      ·exact (Vs rfl)
      ·exact ⟨⟨_, rfl, ⟨rfl, rfl, (An rfl)⟩⟩, ⟨_, rfl, ⟨rfl, rfl, (An rfl)⟩⟩, ⟨_, rfl, ⟨rfl, rfl, (An rfl)⟩⟩, ⟨_, rfl, rfl⟩, ⟨_, rfl, ⟨rfl, rfl, (An rfl)⟩⟩, Z⟩
    ·intro e hdn he hdp
     obtain ⟨-, -, -, h16, -⟩ := dns1 hdn he [7, 14, 15, 16] (by kernel_rfl)
     simp only [setE, he, h16, cj_t, cj_f, cjn_t, cjn_f, cb_t, cb_f]
     exact U (FlB _ _ (V rfl) Un26 rfl 0 Sz3) <| Nt <| weakS ⟨V rfl, V rfl, V rfl, V rfl, V rfl, V rfl, V rfl, V rfl, V rfl, V rfl, V rfl, V rfl, V rfl, V rfl, V rfl, V rfl, V rfl, V rfl, V rfl, V rfl, V rfl, Z⟩
    ·intro e hdn he hdp
     obtain ⟨h6, -⟩ := ups hdn [6] hdp (by kernel_rfl)
     obtain ⟨-, -, h16, -⟩ := dns1 hdn he [14, 15, 16] (by kernel_rfl)
     cases hu13 : e 13
     ·simp only [setE, h6, he, h16, hu13, cj_t, cj_f, cjn_t, cjn_f, cb_t, cb_f]
      refine U (LdB (V rfl) rfl Ga3 (by decide)) <| Nt <| We ?_ ?_
      ·exact (Vs rfl)
      ·exact ⟨⟨_, rfl, ⟨rfl, rfl, (An rfl)⟩⟩, ⟨_, rfl, ⟨rfl, rfl, (An rfl)⟩⟩, ⟨_, rfl, ⟨rfl, rfl, (An rfl)⟩⟩, ⟨_, rfl, rfl⟩, ⟨_, rfl, ⟨rfl, rfl, (An rfl)⟩⟩, Z⟩
     ·simp only [setE, h6, he, h16, hu13, cj_t, cj_f, cjn_t, cjn_f, cb_t, cb_f]
      refine U (LdB (V rfl) rfl Ga3 (by decide)) <| Nt <| We ?_ ?_
      ·exact (Vs rfl)
      ·exact ⟨⟨_, rfl, ⟨rfl, rfl, (An rfl)⟩⟩, ⟨_, rfl, ⟨rfl, rfl, (An rfl)⟩⟩, ⟨_, rfl, ⟨rfl, rfl, (An rfl)⟩⟩, ⟨_, rfl, rfl⟩, ⟨_, rfl, ⟨rfl, rfl, (An rfl)⟩⟩, Z⟩
    ·intro e hdn he hdp
     obtain ⟨-, -, -, h13, -, -, h16, -⟩ := dns1 hdn he [9, 11, 12, 13, 14, 15, 16] (by kernel_rfl)
     simp only [setE, he, h13, h16, cj_t, cj_f, cjn_t, cjn_f, cb_t, cb_f]
     refine U (Fl _ _ (V rfl) Un26 rfl 0 Sz3) <| Nt <| We ?_ ?_
     ·exact (Vs rfl)
     ·exact ⟨⟨_, rfl, ⟨rfl, rfl, (An rfl)⟩⟩, ⟨_, rfl, ⟨rfl, rfl, (An rfl)⟩⟩, ⟨_, rfl, ⟨rfl, rfl, (An rfl)⟩⟩, ⟨_, rfl, rfl⟩, ⟨_, rfl, ⟨rfl, rfl, (An rfl)⟩⟩, Z⟩
    ·intro e hdn he hdp
     obtain ⟨h8, -⟩ := ups hdn [8] hdp (by kernel_rfl)
     obtain ⟨-, -, h13, -, -, h16, -⟩ := dns1 hdn he [11, 12, 13, 14, 15, 16] (by kernel_rfl)
     simp only [setE, h8, he, h13, h16, cj_t, cj_f, cjn_t, cjn_f, cb_t, cb_f]
     refine U (Ld (V rfl) Ga3 (by show 0 < 2; decide)) <| Nt <| We ?_ ?_
     ·exact (Vs rfl)
     ·exact ⟨⟨_, rfl, ⟨rfl, rfl, (An rfl)⟩⟩, ⟨_, rfl, ⟨rfl, rfl, (An rfl)⟩⟩, ⟨_, rfl, ⟨rfl, rfl, (An rfl)⟩⟩, ⟨_, rfl, rfl⟩, ⟨_, rfl, ⟨rfl, rfl, (An rfl)⟩⟩, Z⟩
    ·intro e hdn he hdp
     obtain ⟨-, -, h16, -⟩ := dns1 hdn he [14, 15, 16] (by kernel_rfl)
     simp only [setE, he, h16, cj_t, cj_f, cjn_t, cjn_f, cb_t, cb_f]
     exact U (Mv (V rfl)) <| Nt <| weakS ⟨V rfl, V rfl, V rfl, V rfl, V rfl, V rfl, V rfl, V rfl, V rfl, V rfl, V rfl, V rfl, V rfl, V rfl, V rfl, V rfl, V rfl, V rfl, V rfl, V rfl, V rfl, Z⟩
    ·intro e hdn he hdp
     obtain ⟨h9, h8, h3, h2, h1, h0, -⟩ := ups hdn [9, 8, 3, 2, 1, 0] hdp (by kernel_rfl)
     obtain ⟨-, h13, -, -, h16, -⟩ := dns1 hdn he [12, 13, 14, 15, 16] (by kernel_rfl)
     simp only [setE, h0, h1, h2, h3, h8, h9, he, h13, h16, cj_t, cj_f, cjn_t, cjn_f, cb_t, cb_f]
     refine U (IxO (V rfl) rfl (V rfl) ts22 te22 (by omega) (by first | omega | (simp only [List.length_set]; omega))) <| Nt <| We ?_ ?_
     ·exact (Vs rfl)
     ·exact ⟨⟨_, rfl, ⟨rfl, rfl, (An rfl)⟩⟩, ⟨_, rfl, ⟨rfl, rfl, (An rfl)⟩⟩, ⟨_, rfl, ⟨rfl, rfl, (An rfl)⟩⟩, ⟨_, rfl, rfl⟩, ⟨_, rfl, ⟨rfl, rfl, (An rfl)⟩⟩, Z⟩
    ·intro e hdn he hdp
     obtain ⟨h11, h9, h8, h3, h2, h1, h0, -⟩ := ups hdn [11, 9, 8, 3, 2, 1, 0] hdp (by kernel_rfl)
     obtain ⟨h13, -, -, h16, -⟩ := dns1 hdn he [13, 14, 15, 16] (by kernel_rfl)
     simp only [setE, h0, h1, h2, h3, h8, h9, h11, he, h13, h16, cj_t, cj_f, cjn_t, cjn_f, cb_t, cb_f]
     refine U (FlO _ _ (V rfl) Un61 rfl 0 Sz3) <| Nt <| We ?_ ?_
     ·exact (Vs rfl)
     ·exact ⟨⟨_, rfl, ⟨rfl, rfl, (An rfl)⟩⟩, ⟨_, rfl, ⟨rfl, rfl, (An rfl)⟩⟩, ⟨_, rfl, ⟨rfl, rfl, (An rfl)⟩⟩, ⟨_, rfl, rfl⟩, ⟨_, rfl, ⟨rfl, rfl, (An rfl)⟩⟩, Z⟩
    ·intro e hdn he hdp
     obtain ⟨h12, h11, h9, h8, h3, h2, h1, h0, -⟩ := ups hdn [12, 11, 9, 8, 3, 2, 1, 0] hdp (by kernel_rfl)
     obtain ⟨h14, h15, h16, -⟩ := dns1 hdn he [14, 15, 16] (by kernel_rfl)
     simp only [setE, h0, h1, h2, h3, h8, h9, h11, h12, he, h14, h15, h16, cj_t, cj_f, cjn_t, cjn_f, cb_t, cb_f]
     have hidx0 : Int.toNat ((mkSt l 0).2.1.pl) < ((mkSt l 0).1).length := by first | omega | (simp only [List.length_set]; omega)
     refine StO (rowG ndCell default (((mkSt l 0).1).set (Int.toNat ((mkSt l 0).2.1.pl)) ({ (((mkSt l 0).1).getD (Int.toNat ((mkSt l 0).2.1.pl)) default) with host := h.pl }))) (V rfl) rfl (V rfl) rfl rfl Sz3 (by decide) (show ((mkSt l 0).1).length = (((mkSt l 0).1).set (Int.toNat ((mkSt l 0).2.1.pl)) ({ (((mkSt l 0).1).getD (Int.toNat ((mkSt l 0).2.1.pl)) default) with host := h.pl })).length from List.length_set.symm) (set_at hidx0 rfl) (set_typed hidx0 fun t ht hne => match t, ht, hne with | 0, _, _ => rfl | 1, _, _ => rfl | 2, _, _ => rfl | 3, _, _ => rfl | 4, _, _ => rfl | 5, _, _ => rfl | 6, _, hne => absurd rfl hne | 7, _, _ => rfl) <| Nt <| We ?_ ?_
     ·exact ⟨V rfl, V rfl, V rfl, V rfl, V rfl, V rfl, V rfl, V rfl, V rfl, V rfl, V rfl, V rfl, V rfl, Vj, Vj, V rfl, V rfl, V rfl, V rfl, V rfl, V rfl, Z⟩
     ·exact ⟨⟨_, rfl, ⟨rfl, rfl, (An rfl)⟩⟩, ⟨_, rfl, ⟨rfl, rfl, (An rfl)⟩⟩, ⟨_, rfl, ⟨rfl, rfl, (An rfl)⟩⟩, ⟨_, rfl, rfl⟩, ⟨_, rfl, ⟨rfl, rfl, (An rfl)⟩⟩, Z⟩
    ·intro e hdn he hdp
     obtain ⟨h13, h12, h11, h10, h9, h8, h7, h6, h5, h4, h3, h2, h1, h0, -⟩ := ups hdn [13, 12, 11, 10, 9, 8, 7, 6, 5, 4, 3, 2, 1, 0] hdp (by kernel_rfl)
     obtain ⟨-, h16, -⟩ := dns1 hdn he [15, 16] (by kernel_rfl)
     simp only [setE, h0, h1, h2, h3, h4, h5, h6, h7, h8, h9, h10, h11, h12, h13, he, h16, cj_t, cj_f, cjn_t, cjn_f, cb_t, cb_f]
     refine U (IxO (V rfl) rfl (V rfl) ts22 te22 (by omega) (by first | omega | (simp only [List.length_set]; omega))) <| Nt <| We ?_ ?_
     ·exact (Vs rfl)
     ·exact ⟨⟨_, rfl, ⟨rfl, rfl, (An rfl)⟩⟩, ⟨_, rfl, ⟨rfl, rfl, (An rfl)⟩⟩, ⟨_, rfl, ⟨rfl, rfl, (An rfl)⟩⟩, ⟨_, rfl, rfl⟩, ⟨_, rfl, ⟨rfl, rfl, (An rfl)⟩⟩, Z⟩
    ·intro e hdn he hdp
     obtain ⟨h14, h13, h12, h11, h10, h9, h8, h7, h6, h5, h4, h3, h2, h1, h0, -⟩ := ups hdn [14, 13, 12, 11, 10, 9, 8, 7, 6, 5, 4, 3, 2, 1, 0] hdp (by kernel_rfl)
     obtain ⟨h16, -⟩ := dns1 hdn he [16] (by kernel_rfl)
     simp only [setE, h0, h1, h2, h3, h4, h5, h6, h7, h8, h9, h10, h11, h12, h13, h14, he, h16, cj_t, cj_f, cjn_t, cjn_f, cb_t, cb_f]
     refine U (FlO _ _ (V rfl) Un61 rfl 0 Sz4) <| Nt <| We ?_ ?_
     ·exact (Vs rfl)
     ·exact ⟨⟨_, rfl, ⟨rfl, rfl, (An rfl)⟩⟩, ⟨_, rfl, ⟨rfl, rfl, (An rfl)⟩⟩, ⟨_, rfl, ⟨rfl, rfl, (An rfl)⟩⟩, ⟨_, rfl, rfl⟩, ⟨_, rfl, ⟨rfl, rfl, (An rfl)⟩⟩, Z⟩
    ·intro e hdn he hdp
     obtain ⟨h15, h14, h13, h12, h11, h10, h9, h8, h7, h6, h5, h4, h3, h2, h1, h0, -⟩ := ups hdn [15, 14, 13, 12, 11, 10, 9, 8, 7, 6, 5, 4, 3, 2, 1, 0] hdp (by kernel_rfl)
     simp only [setE, h0, h1, h2, h3, h4, h5, h6, h7, h8, h9, h10, h11, h12, h13, h14, h15, he, cj_t, cj_f, cjn_t, cjn_f, cb_t, cb_f]
     have hidx1 : Int.toNat ((mkSt l 0).2.1.pl) < (((mkSt l 0).1).set (Int.toNat ((mkSt l 0).2.1.pl)) ({ (((mkSt l 0).1).getD (Int.toNat ((mkSt l 0).2.1.pl)) default) with host := h.pl })).length := by first | omega | (simp only [List.length_set]; omega)
     refine StO (rowG ndCell default ((((mkSt l 0).1).set (Int.toNat ((mkSt l 0).2.1.pl)) ({ (((mkSt l 0).1).getD (Int.toNat ((mkSt l 0).2.1.pl)) default) with host := h.pl })).set (Int.toNat ((mkSt l 0).2.1.pl)) ({ ((((mkSt l 0).1).set (Int.toNat ((mkSt l 0).2.1.pl)) ({ (((mkSt l 0).1).getD (Int.toNat ((mkSt l 0).2.1.pl)) default) with host := h.pl })).getD (Int.toNat ((mkSt l 0).2.1.pl)) default) with closed := cl }))) (V rfl) rfl (V rfl) rfl rfl Sz4 (by decide) (show (((mkSt l 0).1).set (Int.toNat ((mkSt l 0).2.1.pl)) ({ (((mkSt l 0).1).getD (Int.toNat ((mkSt l 0).2.1.pl)) default) with host := h.pl })).length = ((((mkSt l 0).1).set (Int.toNat ((mkSt l 0).2.1.pl)) ({ (((mkSt l 0).1).getD (Int.toNat ((mkSt l 0).2.1.pl)) default) with host := h.pl })).set (Int.toNat ((mkSt l 0).2.1.pl)) ({ ((((mkSt l 0).1).set (Int.toNat ((mkSt l 0).2.1.pl)) ({ (((mkSt l 0).1).getD (Int.toNat ((mkSt l 0).2.1.pl)) default) with host := h.pl })).getD (Int.toNat ((mkSt l 0).2.1.pl)) default) with closed := cl })).length from List.length_set.symm) (set_at hidx1 rfl) (set_typed hidx1 fun t ht hne => match t, ht, hne with | 0, _, _ => rfl | 1, _, _ => rfl | 2, _, _ => rfl | 3, _, _ => rfl | 4, _, _ => rfl | 5, _, _ => rfl | 6, _, _ => rfl | 7, _, hne => absurd rfl hne) <| Nt <| We ?_ ?_
     ·exact (Vs rfl)
     ·exact ⟨⟨_, rfl, ⟨rfl, rfl, (An rfl)⟩⟩, ⟨_, rfl, ⟨rfl, rfl, (An rfl)⟩⟩, ⟨_, rfl, ⟨rfl, rfl, (An rfl)⟩⟩, ⟨_, rfl, rfl⟩, ⟨_, rfl, ⟨rfl, rfl, (An rfl)⟩⟩, Z⟩
    ·intro e he
     have h0 := he 0 (by decide)
     have h1 := he 1 (by decide)
     have h2 := he 2 (by decide)
     have h3 := he 3 (by decide)
     have h4 := he 4 (by decide)
     have h5 := he 5 (by decide)
     have h6 := he 6 (by decide)
     have h7 := he 7 (by decide)
     have h8 := he 8 (by decide)
     have h9 := he 9 (by decide)
     have h10 := he 10 (by decide)
     have h11 := he 11 (by decide)
     have h12 := he 12 (by decide)
     have h13 := he 13 (by decide)
     have h14 := he 14 (by decide)
     have h15 := he 15 (by decide)
     have h16 := he 16 (by decide)
     show Weak _ ⟨[(41, cj (e 0) (SV.bp 1 0)), (42, cj (e 1) (SV.own 6)), (43, cj (e 2) (SV.bp 7 0)), (44, cj (e 3) (iv ((mkSt l 0).2.1.pl))), (45, cj (e 4) (SV.bp 1 0)), (46, cj (e 5) (SV.own 6)), (47, cj (e 6) (SV.bp 7 0)), (48, cj (e 7) (iv ((mkSt l 0).2.1.pl))), (49, cj (e 8) (elB [iv (h.pl), iv (h.use)] 0)), (50, cj (e 9) (iv (h.pl))), (51, cj (e 10) (bv (cl))), (52, cj (e 11) (SV.oe 6 8 (Int.toNat ((mkSt l 0).2.1.pl)) 0)), (53, cj (e 12) (SV.oe 6 8 (Int.toNat ((mkSt l 0).2.1.pl)) 6)), (54, cj (e 14) (SV.oe 6 8 (Int.toNat ((mkSt l 0).2.1.pl)) 0)), (55, cj (e 15) (SV.oe 6 8 (Int.toNat ((mkSt l 0).2.1.pl)) 7)), (2, bv (cl)), (3, SV.bp 1 0), (4, elB [iv (h.pl), iv (h.use)] 0), (6, SV.bp 3 0), (7, SV.bp 4 0), (11, SV.bp 7 0)], (cb (e 13) (cb (e 16) [(1, Own.box 1 (fun zt => SV.renm (rn [(0, 6)]) ((cmpG [SV.own 0]) zt)) 24), (3, Own.box 1 (cmpG [SV.v (Value.slice none 0 0)]) 24), (4, Own.box 2 (cmpG [iv (0), iv (0)]) 26), (6, ownOf ndCell 8 default ((((mkSt l 0).1).set (Int.toNat ((mkSt l 0).2.1.pl)) ({ (((mkSt l 0).1).getD (Int.toNat ((mkSt l 0).2.1.pl)) default) with host := h.pl })).set (Int.toNat ((mkSt l 0).2.1.pl)) ({ ((((mkSt l 0).1).set (Int.toNat ((mkSt l 0).2.1.pl)) ({ (((mkSt l 0).1).getD (Int.toNat ((mkSt l 0).2.1.pl)) default) with host := h.pl })).getD (Int.toNat ((mkSt l 0).2.1.pl)) default) with closed := cl })) 61), (7, Own.box 2 (hdCell ((mkSt l 0).2.1)) 26)] [(1, Own.box 1 (fun zt => SV.renm (rn [(0, 6)]) ((cmpG [SV.own 0]) zt)) 24), (3, Own.box 1 (cmpG [SV.v (Value.slice none 0 0)]) 24), (4, Own.box 2 (cmpG [iv (0), iv (0)]) 26), (6, ownOf ndCell 8 default (((mkSt l 0).1).set (Int.toNat ((mkSt l 0).2.1.pl)) ({ (((mkSt l 0).1).getD (Int.toNat ((mkSt l 0).2.1.pl)) default) with host := h.pl })) 61), (7, Own.box 2 (hdCell ((mkSt l 0).2.1)) 26)]) (cb (e 16) [] [(1, Own.box 1 (fun zt => SV.renm (rn [(0, 6)]) ((cmpG [SV.own 0]) zt)) 24), (3, Own.box 1 (cmpG [SV.v (Value.slice none 0 0)]) 24), (4, Own.box 2 (cmpG [iv (0), iv (0)]) 26), (6, ownOf ndCell 8 default ((mkSt l 0).1) 61), (7, Own.box 2 (hdCell ((mkSt l 0).2.1)) 26)]))⟩ _
     simp only [h0, h1, h2, h3, h4, h5, h6, h7, h8, h9, h10, h11, h12, h13, h14, h15, h16]
     show Weak _ ⟨[(41, SV.bp 1 0), (42, SV.own 6), (43, SV.bp 7 0), (44, iv ((mkSt l 0).2.1.pl)), (45, SV.bp 1 0), (46, SV.own 6), (47, SV.bp 7 0), (48, iv ((mkSt l 0).2.1.pl)), (49, elB [iv (h.pl), iv (h.use)] 0), (50, iv (h.pl)), (51, bv (cl)), (52, SV.oe 6 8 (Int.toNat ((mkSt l 0).2.1.pl)) 0), (53, SV.oe 6 8 (Int.toNat ((mkSt l 0).2.1.pl)) 6), (54, SV.oe 6 8 (Int.toNat ((mkSt l 0).2.1.pl)) 0), (55, SV.oe 6 8 (Int.toNat ((mkSt l 0).2.1.pl)) 7), (2, bv (cl)), (3, SV.bp 1 0), (4, elB [iv (h.pl), iv (h.use)] 0), (6, SV.bp 3 0), (7, SV.bp 4 0), (11, SV.bp 7 0)], [(1, Own.box 1 (fun zt => SV.renm (rn [(0, 6)]) ((cmpG [SV.own 0]) zt)) 24), (3, Own.box 1 (cmpG [SV.v (Value.slice none 0 0)]) 24), (4, Own.box 2 (cmpG [iv (0), iv (0)]) 26), (6, ownOf ndCell 8 default ((((mkSt l 0).1).set (Int.toNat ((mkSt l 0).2.1.pl)) ({ (((mkSt l 0).1).getD (Int.toNat ((mkSt l 0).2.1.pl)) default) with host := h.pl })).set (Int.toNat ((mkSt l 0).2.1.pl)) ({ ((((mkSt l 0).1).set (Int.toNat ((mkSt l 0).2.1.pl)) ({ (((mkSt l 0).1).getD (Int.toNat ((mkSt l 0).2.1.pl)) default) with host := h.pl })).getD (Int.toNat ((mkSt l 0).2.1.pl)) default) with closed := cl })) 61), (7, Own.box 2 (hdCell ((mkSt l 0).2.1)) 26)]⟩ _
     refine We ?_ ?_
     ·exact ⟨V rfl, V rfl, V rfl, V rfl, V rfl, V rfl, V rfl, V rfl, V rfl, V rfl, V rfl, V rfl, V rfl, V rfl, V rfl, V rfl, V rfl, V rfl, V rfl, V rfl, V rfl, Z⟩
     ·exact ⟨⟨_, rfl, ⟨rfl, rfl, (An rfl)⟩⟩, ⟨_, rfl, ⟨rfl, rfl, (An rfl)⟩⟩, ⟨_, rfl, ⟨rfl, rfl, (An rfl)⟩⟩, ⟨_, rfl, rfl⟩, ⟨_, rfl, ⟨rfl, rfl, (An rfl)⟩⟩, Z⟩
    refine Sq <| c_rd (fun e => ⟨[(56, cj (e 0) (SV.agg 1 (fun zi => (fun zt => SV.renm (rn [(0, 6)]) ((cmpG [SV.own 0]) zt)) (0 + zi)))), (57, cj (e 1) (SV.agg 2 (fun zi => (hdCell ((mkSt l 0).2.1)) (0 + zi)))), (8, cj (e 4) (iv (0))), (3, SV.bp 1 0), (6, SV.bp 3 0), (7, SV.bp 4 0), (11, SV.bp 7 0)], (cb (e 2) (cb (e 3) [(1, Own.box 1 (fun zt => SV.renm (rn [(0, 6)]) ((cmpG [SV.own 0]) zt)) 24), (3, Own.box 1 (fun zi => (fun zt => SV.renm (rn [(0, 6)]) ((cmpG [SV.own 0]) zt)) (0 + zi)) 24), (4, Own.box 2 (fun zi => (hdCell ((mkSt l 0).2.1)) (0 + zi)) 26), (6, ownOf ndCell 8 default ((((mkSt l 0).1).set (Int.toNat ((mkSt l 0).2.1.pl)) ({ (((mkSt l 0).1).getD (Int.toNat ((mkSt l 0).2.1.pl)) default) with host := h.pl })).set (Int.toNat ((mkSt l 0).2.1.pl)) ({ ((((mkSt l 0).1).set (Int.toNat ((mkSt l 0).2.1.pl)) ({ (((mkSt l 0).1).getD (Int.toNat ((mkSt l 0).2.1.pl)) default) with host := h.pl })).getD (Int.toNat ((mkSt l 0).2.1.pl)) default) with closed := cl })) 61), (7, Own.box 2 (hdCell ((mkSt l 0).2.1)) 26)] [(1, Own.box 1 (fun zt => SV.renm (rn [(0, 6)]) ((cmpG [SV.own 0]) zt)) 24), (3, Own.box 1 (fun zi => (fun zt => SV.renm (rn [(0, 6)]) ((cmpG [SV.own 0]) zt)) (0 + zi)) 24), (4, Own.box 2 (cmpG [iv (0), iv (0)]) 26), (6, ownOf ndCell 8 default ((((mkSt l 0).1).set (Int.toNat ((mkSt l 0).2.1.pl)) ({ (((mkSt l 0).1).getD (Int.toNat ((mkSt l 0).2.1.pl)) default) with host := h.pl })).set (Int.toNat ((mkSt l 0).2.1.pl)) ({ ((((mkSt l 0).1).set (Int.toNat ((mkSt l 0).2.1.pl)) ({ (((mkSt l 0).1).getD (Int.toNat ((mkSt l 0).2.1.pl)) default) with host := h.pl })).getD (Int.toNat ((mkSt l 0).2.1.pl)) default) with closed := cl })) 61), (7, Own.box 2 (hdCell ((mkSt l 0).2.1)) 26)]) (cb (e 3) [] [(1, Own.box 1 (fun zt => SV.renm (rn [(0, 6)]) ((cmpG [SV.own 0]) zt)) 24), (3, Own.box 1 (cmpG [SV.v (Value.slice none 0 0)]) 24), (4, Own.box 2 (cmpG [iv (0), iv (0)]) 26), (6, ownOf ndCell 8 default ((((mkSt l 0).1).set (Int.toNat ((mkSt l 0).2.1.pl)) ({ (((mkSt l 0).1).getD (Int.toNat ((mkSt l 0).2.1.pl)) default) with host := h.pl })).set (Int.toNat ((mkSt l 0).2.1.pl)) ({ ((((mkSt l 0).1).set (Int.toNat ((mkSt l 0).2.1.pl)) ({ (((mkSt l 0).1).getD (Int.toNat ((mkSt l 0).2.1.pl)) default) with host := h.pl })).getD (Int.toNat ((mkSt l 0).2.1.pl)) default) with closed := cl })) 61), (7, Own.box 2 (hdCell ((mkSt l 0).2.1)) 26)]))⟩) ⟨[(56, SV.agg 1 (fun zi => (fun zt => SV.renm (rn [(0, 6)]) ((cmpG [SV.own 0]) zt)) (0 + zi))), (57, SV.agg 2 (fun zi => (hdCell ((mkSt l 0).2.1)) (0 + zi))), (8, iv (0)), (3, SV.bp 1 0), (6, SV.bp 3 0), (7, SV.bp 4 0), (11, SV.bp 7 0)], [(1, Own.box 1 (fun zt => SV.renm (rn [(0, 6)]) ((cmpG [SV.own 0]) zt)) 24), (3, Own.box 1 (fun zi => (fun zt => SV.renm (rn [(0, 6)]) ((cmpG [SV.own 0]) zt)) (0 + zi)) 24), (4, Own.box 2 (fun zi => (hdCell ((mkSt l 0).2.1)) (0 + zi)) 26), (6, ownOf ndCell 8 default ((((mkSt l 0).1).set (Int.toNat ((mkSt l 0).2.1.pl)) ({ (((mkSt l 0).1).getD (Int.toNat ((mkSt l 0).2.1.pl)) default) with host := h.pl })).set (Int.toNat ((mkSt l 0).2.1.pl)) ({ ((((mkSt l 0).1).set (Int.toNat ((mkSt l 0).2.1.pl)) ({ (((mkSt l 0).1).getD (Int.toNat ((mkSt l 0).2.1.pl)) default) with host := h.pl })).getD (Int.toNat ((mkSt l 0).2.1.pl)) default) with closed := cl })) 61), (7, Own.box 2 (hdCell ((mkSt l 0).2.1)) 26)]⟩ (by kernel_rfl) (by kernel_rfl) ?_ ⟨?_, ?_, ?_, ?_, ?_, Z⟩ ?_ ?_
    ·show Weak _ _ ⟨[(56, SV.junk), (57, SV.junk), (8, SV.junk), (3, SV.bp 1 0), (6, SV.bp 3 0), (7, SV.bp 4 0), (11, SV.bp 7 0)], [(1, Own.box 1 (fun zt => SV.renm (rn [(0, 6)]) ((cmpG [SV.own 0]) zt)) 24), (3, Own.box 1 (cmpG [SV.v (Value.slice none 0 0)]) 24), (4, Own.box 2 (cmpG [iv (0), iv (0)]) 26), (6, ownOf ndCell 8 default ((((mkSt l 0).1).set (Int.toNat ((mkSt l 0).2.1.pl)) ({ (((mkSt l 0).1).getD (Int.toNat ((mkSt l 0).2.1.pl)) default) with host := h.pl })).set (Int.toNat ((mkSt l 0).2.1.pl)) ({ ((((mkSt l 0).1).set (Int.toNat ((mkSt l 0).2.1.pl)) ({ (((mkSt l 0).1).getD (Int.toNat ((mkSt l 0).2.1.pl)) default) with host := h.pl })).getD (Int.toNat ((mkSt l 0).2.1.pl)) default) with closed := cl })) 61), (7, Own.box 2 (hdCell ((mkSt l 0).2.1)) 26)]⟩
     refine We ?_ ?_
     ·exact ⟨Vj, Vj, Vj, V rfl, V rfl, V rfl, V rfl, Z⟩
     ·exact ⟨⟨_, rfl, ⟨rfl, rfl, (An rfl)⟩⟩, ⟨_, rfl, ⟨rfl, rfl, (An rfl)⟩⟩, ⟨_, rfl, ⟨rfl, rfl, (An rfl)⟩⟩, ⟨_, rfl, rfl⟩, ⟨_, rfl, ⟨rfl, rfl, (An rfl)⟩⟩, Z⟩
    ·intro e hdn he hdp
     obtain ⟨h2, h3, -⟩ := dns1 hdn he [2, 3] (by kernel_rfl)
     simp only [setE, he, h2, h3, cj_t, cj_f, cjn_t, cjn_f, cb_t, cb_f]
     refine U (LBA (V rfl) rfl Ga24 Sz24 (by decide)) <| Nt <| We ?_ ?_
     ·exact (Vs rfl)
     ·exact ⟨⟨_, rfl, ⟨rfl, rfl, (An rfl)⟩⟩, ⟨_, rfl, ⟨rfl, rfl, (An rfl)⟩⟩, ⟨_, rfl, ⟨rfl, rfl, (An rfl)⟩⟩, ⟨_, rfl, rfl⟩, ⟨_, rfl, ⟨rfl, rfl, (An rfl)⟩⟩, Z⟩
    ·intro e hdn he hdp
     obtain ⟨h3, -⟩ := dns1 hdn he [3] (by kernel_rfl)
     cases hu2 : e 2
     ·simp only [setE, he, h3, hu2, cj_t, cj_f, cjn_t, cjn_f, cb_t, cb_f]
      refine U (LBA (V rfl) rfl Ga26 Sz26 (by decide)) <| Nt <| We ?_ ?_
      ·exact (Vs rfl)
      ·exact ⟨⟨_, rfl, ⟨rfl, rfl, (An rfl)⟩⟩, ⟨_, rfl, ⟨rfl, rfl, (An rfl)⟩⟩, ⟨_, rfl, ⟨rfl, rfl, (An rfl)⟩⟩, ⟨_, rfl, rfl⟩, ⟨_, rfl, ⟨rfl, rfl, (An rfl)⟩⟩, Z⟩
     ·simp only [setE, he, h3, hu2, cj_t, cj_f, cjn_t, cjn_f, cb_t, cb_f]
      refine U (LBA (V rfl) rfl Ga26 Sz26 (by decide)) <| Nt <| We ?_ ?_
      ·exact (Vs rfl)
      ·exact ⟨⟨_, rfl, ⟨rfl, rfl, (An rfl)⟩⟩, ⟨_, rfl, ⟨rfl, rfl, (An rfl)⟩⟩, ⟨_, rfl, ⟨rfl, rfl, (An rfl)⟩⟩, ⟨_, rfl, rfl⟩, ⟨_, rfl, ⟨rfl, rfl, (An rfl)⟩⟩, Z⟩
    ·intro e hdn he hdp
     obtain ⟨h0, -⟩ := ups hdn [0] hdp (by kernel_rfl)
     obtain ⟨h3, -⟩ := dns1 hdn he [3] (by kernel_rfl)
     simp only [setE, h0, he, h3, cj_t, cj_f, cjn_t, cjn_f, cb_t, cb_f]
     refine StA (V rfl) rfl (V rfl) Sz24 <| Nt <| We ?_ ?_
     ·exact (Vs rfl)
     ·exact ⟨⟨_, rfl, ⟨rfl, rfl, (An rfl)⟩⟩, ⟨_, rfl, ⟨rfl, rfl, (An rfl)⟩⟩, ⟨_, rfl, ⟨rfl, rfl, (An rfl)⟩⟩, ⟨_, rfl, rfl⟩, ⟨_, rfl, ⟨rfl, rfl, (An rfl)⟩⟩, Z⟩
    ·intro e hdn he hdp
     obtain ⟨h2, h1, h0, -⟩ := ups hdn [2, 1, 0] hdp (by kernel_rfl)
     simp only [setE, h0, h1, h2, he, cj_t, cj_f, cjn_t, cjn_f, cb_t, cb_f]
     refine StA (V rfl) rfl (V rfl) Sz26 <| Nt <| We ?_ ?_
     ·exact (Vs rfl)
     ·exact ⟨⟨_, rfl, ⟨rfl, rfl, (An rfl)⟩⟩, ⟨_, rfl, ⟨rfl, rfl, (An rfl)⟩⟩, ⟨_, rfl, ⟨rfl, rfl, (An rfl)⟩⟩, ⟨_, rfl, rfl⟩, ⟨_, rfl, ⟨rfl, rfl, (An rfl)⟩⟩, Z⟩
    ·intro e hdn he hdp
     obtain ⟨h3, h2, h1, h0, -⟩ := ups hdn [3, 2, 1, 0] hdp (by kernel_rfl)
     simp only [setE, h0, h1, h2, h3, he, cj_t, cj_f, cjn_t, cjn_f, cb_t, cb_f]
     refine U (As K) <| Nt <| We ?_ ?_
     ·exact (Vs rfl)
     ·exact ⟨⟨_, rfl, ⟨rfl, rfl, (An rfl)⟩⟩, ⟨_, rfl, ⟨rfl, rfl, (An rfl)⟩⟩, ⟨_, rfl, ⟨rfl, rfl, (An rfl)⟩⟩, ⟨_, rfl, rfl⟩, ⟨_, rfl, ⟨rfl, rfl, (An rfl)⟩⟩, Z⟩
    ·intro e he
     have h0 := he 0 (by decide)
     have h1 := he 1 (by decide)
     have h2 := he 2 (by decide)
     have h3 := he 3 (by decide)
     have h4 := he 4 (by decide)
     show Weak _ ⟨[(56, cj (e 0) (SV.agg 1 (fun zi => (fun zt => SV.renm (rn [(0, 6)]) ((cmpG [SV.own 0]) zt)) (0 + zi)))), (57, cj (e 1) (SV.agg 2 (fun zi => (hdCell ((mkSt l 0).2.1)) (0 + zi)))), (8, cj (e 4) (iv (0))), (3, SV.bp 1 0), (6, SV.bp 3 0), (7, SV.bp 4 0), (11, SV.bp 7 0)], (cb (e 2) (cb (e 3) [(1, Own.box 1 (fun zt => SV.renm (rn [(0, 6)]) ((cmpG [SV.own 0]) zt)) 24), (3, Own.box 1 (fun zi => (fun zt => SV.renm (rn [(0, 6)]) ((cmpG [SV.own 0]) zt)) (0 + zi)) 24), (4, Own.box 2 (fun zi => (hdCell ((mkSt l 0).2.1)) (0 + zi)) 26), (6, ownOf ndCell 8 default ((((mkSt l 0).1).set (Int.toNat ((mkSt l 0).2.1.pl)) ({ (((mkSt l 0).1).getD (Int.toNat ((mkSt l 0).2.1.pl)) default) with host := h.pl })).set (Int.toNat ((mkSt l 0).2.1.pl)) ({ ((((mkSt l 0).1).set (Int.toNat ((mkSt l 0).2.1.pl)) ({ (((mkSt l 0).1).getD (Int.toNat ((mkSt l 0).2.1.pl)) default) with host := h.pl })).getD (Int.toNat ((mkSt l 0).2.1.pl)) default) with closed := cl })) 61), (7, Own.box 2 (hdCell ((mkSt l 0).2.1)) 26)] [(1, Own.box 1 (fun zt => SV.renm (rn [(0, 6)]) ((cmpG [SV.own 0]) zt)) 24), (3, Own.box 1 (fun zi => (fun zt => SV.renm (rn [(0, 6)]) ((cmpG [SV.own 0]) zt)) (0 + zi)) 24), (4, Own.box 2 (cmpG [iv (0), iv (0)]) 26), (6, ownOf ndCell 8 default ((((mkSt l 0).1).set (Int.toNat ((mkSt l 0).2.1.pl)) ({ (((mkSt l 0).1).getD (Int.toNat ((mkSt l 0).2.1.pl)) default) with host := h.pl })).set (Int.toNat ((mkSt l 0).2.1.pl)) ({ ((((mkSt l 0).1).set (Int.toNat ((mkSt l 0).2.1.pl)) ({ (((mkSt l 0).1).getD (Int.toNat ((mkSt l 0).2.1.pl)) default) with host := h.pl })).getD (Int.toNat ((mkSt l 0).2.1.pl)) default) with closed := cl })) 61), (7, Own.box 2 (hdCell ((mkSt l 0).2.1)) 26)]) (cb (e 3) [] [(1, Own.box 1 (fun zt => SV.renm (rn [(0, 6)]) ((cmpG [SV.own 0]) zt)) 24), (3, Own.box 1 (cmpG [SV.v (Value.slice none 0 0)]) 24), (4, Own.box 2 (cmpG [iv (0), iv (0)]) 26), (6, ownOf ndCell 8 default ((((mkSt l 0).1).set (Int.toNat ((mkSt l 0).2.1.pl)) ({ (((mkSt l 0).1).getD (Int.toNat ((mkSt l 0).2.1.pl)) default) with host := h.pl })).set (Int.toNat ((mkSt l 0).2.1.pl)) ({ ((((mkSt l 0).1).set (Int.toNat ((mkSt l 0).2.1.pl)) ({ (((mkSt l 0).1).getD (Int.toNat ((mkSt l 0).2.1.pl)) default) with host := h.pl })).getD (Int.toNat ((mkSt l 0).2.1.pl)) default) with closed := cl })) 61), (7, Own.box 2 (hdCell ((mkSt l 0).2.1)) 26)]))⟩ _
     simp only [h0, h1, h2, h3, h4]
     show Weak _ ⟨[(56, SV.agg 1 (fun zi => (fun zt => SV.renm (rn [(0, 6)]) ((cmpG [SV.own 0]) zt)) (0 + zi))), (57, SV.agg 2 (fun zi => (hdCell ((mkSt l 0).2.1)) (0 + zi))), (8, iv (0)), (3, SV.bp 1 0), (6, SV.bp 3 0), (7, SV.bp 4 0), (11, SV.bp 7 0)], [(1, Own.box 1 (fun zt => SV.renm (rn [(0, 6)]) ((cmpG [SV.own 0]) zt)) 24), (3, Own.box 1 (fun zi => (fun zt => SV.renm (rn [(0, 6)]) ((cmpG [SV.own 0]) zt)) (0 + zi)) 24), (4, Own.box 2 (fun zi => (hdCell ((mkSt l 0).2.1)) (0 + zi)) 26), (6, ownOf ndCell 8 default ((((mkSt l 0).1).set (Int.toNat ((mkSt l 0).2.1.pl)) ({ (((mkSt l 0).1).getD (Int.toNat ((mkSt l 0).2.1.pl)) default) with host := h.pl })).set (Int.toNat ((mkSt l 0).2.1.pl)) ({ ((((mkSt l 0).1).set (Int.toNat ((mkSt l 0).2.1.pl)) ({ (((mkSt l 0).1).getD (Int.toNat ((mkSt l 0).2.1.pl)) default) with host := h.pl })).getD (Int.toNat ((mkSt l 0).2.1.pl)) default) with closed := cl })) 61), (7, Own.box 2 (hdCell ((mkSt l 0).2.1)) 26)]⟩ _
     refine We ?_ ?_
     ·exact ⟨Va (V rfl) (An rfl), Va (V rfl) (An rfl), V rfl, V rfl, V rfl, V rfl, V rfl, Z⟩
     ·exact ⟨⟨_, rfl, ⟨rfl, rfl, (An rfl)⟩⟩, ⟨_, rfl, ⟨rfl, rfl, (An rfl)⟩⟩, ⟨_, rfl, ⟨rfl, rfl, (An rfl)⟩⟩, ⟨_, rfl, rfl⟩, ⟨_, rfl, ⟨rfl, rfl, (An rfl)⟩⟩, Z⟩
    exact FzC 6 rfl <| Rx <| RR3 rfl (rv_aggI (g' := stG ((((mkSt l 0).1).set (Int.toNat ((mkSt l 0).2.1.pl)) ({ (((mkSt l 0).1).getD (Int.toNat ((mkSt l 0).2.1.pl)) default) with host := h.pl })).set (Int.toNat ((mkSt l 0).2.1.pl)) ({ ((((mkSt l 0).1).set (Int.toNat ((mkSt l 0).2.1.pl)) ({ (((mkSt l 0).1).getD (Int.toNat ((mkSt l 0).2.1.pl)) default) with host := h.pl })).getD (Int.toNat ((mkSt l 0).2.1.pl)) default) with closed := cl }))) (rv_cell (V rfl) rfl Ga24 Sz24) ⟨Z, Ir⟩) (rv_aggI (g' := hdCell ⟨(mkSt l 0).2.1.pl, (mkSt l 0).2.1.use⟩) (rv_cell (V rfl) rfl Ga26 Sz26) ⟨⟨Z, Ir⟩, Ir⟩) (rv_tmp (V rfl)) rfl rfl rfl (by show sv3 (SV.agg 1 (stG ((((mkSt l 0).1).set (Int.toNat ((mkSt l 0).2.1.pl)) ({ (((mkSt l 0).1).getD (Int.toNat ((mkSt l 0).2.1.pl)) default) with host := h.pl })).set (Int.toNat ((mkSt l 0).2.1.pl)) ({ ((((mkSt l 0).1).set (Int.toNat ((mkSt l 0).2.1.pl)) ({ (((mkSt l 0).1).getD (Int.toNat ((mkSt l 0).2.1.pl)) default) with host := h.pl })).getD (Int.toNat ((mkSt l 0).2.1.pl)) default) with closed := cl })))) (SV.agg 2 (hdCell ⟨(mkSt l 0).2.1.pl, (mkSt l 0).2.1.use⟩)) (iv (0)) = sv3 (SV.agg 1 (stG (attSt l h cl).1)) (SV.agg 2 (hdCell (attSt l h cl).2.1)) (iv (attSt l h cl).2.2); rw [att_4 hf0 hc2 hc3s]; rfl)
end Go.Proofs.Ytmcdamcedemdiaa
namespace Go.Proofs.Ytmcdamcedemdiaa
def preN (ch : Int → List Int) : Nat → Int → List Int
  | 0, _ => []
  | n + 1, k => k :: (ch k).flatMap (preN ch n)
structure Ranked (ch : Int → List Int) (dom : Int → Prop) (rk : Int → Nat) (N : Nat) : Prop where
  inn : ∀ k, dom k → ∀ c ∈ ch k, dom c
  up : ∀ k, dom k → ∀ c ∈ ch k, rk k < rk c
  lid : ∀ k, dom k → rk k ≤ N
section
variable {ch : Int → List Int} {dom : Int → Prop} {rk : Int → Nat} {N : Nat}
theorem flatMap_eq {L : List Int} {f g : Int → List Int} (h : ∀ x ∈ L, f x = g x) : L.flatMap f = L.flatMap g := by
  induction L with
  | nil => rfl
  | cons x L ih => rw [List.flatMap_cons, List.flatMap_cons, h x (.head _), ih fun y hy => h y (.tail _ hy)]
theorem preN_s (R : Ranked ch dom rk N) : ∀ (n : Nat) (k : Int), dom k → N < rk k + n → preN ch (n + 1) k = preN ch n k
  | 0, k, hk, hn => by have := R.lid k hk; omega
  | n + 1, k, hk, hn => by
    show k :: _ = k :: _
    rw [flatMap_eq fun c hc => preN_s R n c (R.inn k hk c hc) (by have := R.up k hk c hc; omega)]
def preO (ch : Int → List Int) (N : Nat) (k : Int) : List Int := preN ch (N + 1) k
theorem pre_eq (R : Ranked ch dom rk N) {k : Int} (hk : dom k) : preO ch N k = k :: (ch k).flatMap (preO ch N) := by
  show k :: _ = k :: _
  congr 1
  exact flatMap_eq fun c hc => (preN_s R N c (R.inn k hk c hc) (by have := R.up k hk c hc; omega)).symm
theorem pre_in (R : Ranked ch dom rk N) {x : Int} : ∀ (n : Nat) (k : Int), dom k → x ∈ preN ch n k → dom x ∧ rk k ≤ rk x
  | 0, _, _, h => by cases h
  | n + 1, k, hk, h => by
    rcases List.mem_cons.1 h with rfl | h
    · exact ⟨hk, Nat.le_refl _⟩
    · obtain ⟨c, hc, hx⟩ := List.mem_flatMap.1 h
      have ih := pre_in R n c (R.inn k hk c hc) hx
      have := R.up k hk c hc
      exact ⟨ih.1, by omega⟩
inductive Under (ch : Int → List Int) (k : Int) : Int → Prop where
  | refl : Under ch k k
  | step {x c : Int} : Under ch k x → c ∈ ch x → Under ch k c
theorem under_head {k c x : Int} (hc : c ∈ ch k) (h : Under ch c x) : Under ch k x := by
  induction h with
  | refl => exact .step .refl hc
  | step _ hm ih => exact .step ih hm
theorem pre_under {x : Int} : ∀ (n : Nat) (k : Int), x ∈ preN ch n k → Under ch k x
  | 0, _, h => by cases h
  | n + 1, k, h => by
    rcases List.mem_cons.1 h with rfl | h
    · exact .refl
    · obtain ⟨c, hc, hx⟩ := List.mem_flatMap.1 h
      exact under_head hc (pre_under n c hx)
def One (ch : Int → List Int) (dom : Int → Prop) : Prop := ∀ a b c, dom a → dom b → c ∈ ch a → c ∈ ch b → a = b
theorem under_dom (R : Ranked ch dom rk N) {k x : Int} (hk : dom k) (h : Under ch k x) : dom x ∧ rk k ≤ rk x := by
  induction h with
  | refl => exact ⟨hk, Nat.le_refl _⟩
  | step _ hm ih => exact ⟨R.inn _ ih.1 _ hm, by have := R.up _ ih.1 _ hm; omega⟩
theorem under_two (R : Ranked ch dom rk N) (O : One ch dom) {a b x : Int} (ha : dom a) (hb : dom b) (h : Under ch a x) (g : Under ch b x) : Under ch a b ∨ Under ch b a := by
  induction h with
  | refl => exact .inr g
  | @step y c hy hm ih =>
    cases g with
    | refl => exact .inl (.step hy hm)
    | @step z _ hz hm2 =>
      have := O y z c (under_dom R ha hy).1 (under_dom R hb hz).1 hm hm2
      subst this
      exact ih hz
theorem under_up (R : Ranked ch dom rk N) (O : One ch dom) {k c d : Int} (hk : dom k) (hc : c ∈ ch k) (hd : d ∈ ch k) (h : Under ch c d) : c = d := by
  cases h with
  | refl => rfl
  | @step y _ hy hm =>
    have := O y k d (under_dom R (R.inn k hk c hc) hy).1 hk hm hd
    subst this
    have h1 := (under_dom R (R.inn y hk c hc) hy).2
    have h2 := R.up y hk c hc
    omega
theorem pre_nodup (R : Ranked ch dom rk N) (O : One ch dom) (D : ∀ k, dom k → (ch k).Nodup) : ∀ (n : Nat) (k : Int), dom k → (preN ch n k).Nodup
  | 0, _, _ => List.nodup_nil
  | n + 1, k, hk => by
    refine List.nodup_cons.2 ⟨fun q => ?_, ?_⟩
    · obtain ⟨c, hc, hx⟩ := List.mem_flatMap.1 q
      have h1 := (pre_in R n c (R.inn k hk c hc) hx).2
      have h2 := R.up k hk c hc
      omega
    · unfold List.Nodup
      rw [List.pairwise_flatMap]
      refine ⟨fun c hc => pre_nodup R O D n c (R.inn k hk c hc), ?_⟩
      have hp := D k hk
      unfold List.Nodup at hp
      rw [List.pairwise_iff_getElem] at hp ⊢
      intro i j hi hj hij x hx y hy e
      subst e
      have hci := List.getElem_mem hi
      have hcj := List.getElem_mem hj
      rcases under_two R O (R.inn k hk _ hci) (R.inn k hk _ hcj) (pre_under n _ hx) (pre_under n _ hy) with u | u
      · exact hp i j hi hj hij (under_up R O hk hci hcj u)
      · exact hp i j hi hj hij (under_up R O hk hcj hci u).symm
theorem flat_step (R : Ranked ch dom rk N) {k : Int} {done rest : List Int} (hk : dom k) : done ++ (k :: rest).flatMap (preO ch N) = (done ++ [k]) ++ (ch k ++ rest).flatMap (preO ch N) := by
  rw [List.flatMap_cons, pre_eq R hk, List.flatMap_append]; simp
end
end Go.Proofs.Ytmcdamcedemdiaa
namespace Go.Proofs.Ytmcdamcedemdiaa
open Go.RowKit Go.Eng
def rtI (l : List Nd) (k : Int) : Int := idxF (fun n => decide (n.host = k)) l
def givL (l : List Nd) (H num : Int) : List Int := (l.getD H.toNat default).kids.filter fun c => decide ((l.getD c.toNat default).mark = num)
def slStep (l : List Nd) (H : Int) (out : List Sl) (k : Int) : List Sl :=
  if (l.getD k.toNat default).tag < 90 then out else out ++ [⟨k, (l.getD k.toNat default).tag - 90, if (out.any fun y => decide (y.num = (l.getD k.toNat default).tag - 90)) = true then [] else givL l H ((l.getD k.toNat default).tag - 90)⟩]
def slotsL (l : List Nd) (H : Int) (L : List Int) : List Sl := L.foldl (slStep l H) []
def slotsR (l : List Nd) (r : Int) : List Sl := slotsL l (l.getD r.toNat default).host (ordSt l r)
def givenK (l : List Nd) (k r : Int) : Int := if idxF (fun x : Sl => decide (k ∈ x.given)) (slotsR l r) < 0 then -1 else ((slotsR l r).getD (idxF (fun x : Sl => decide (k ∈ x.given)) (slotsR l r)).toNat default).pl
def givenI (l : List Nd) (k : Int) : Int := if (l.getD k.toNat default).par < 0 then -1 else if rtI l (l.getD k.toNat default).par < 0 then -1 else givenK l k (rtI l (l.getD k.toNat default).par)
def inSlot (k : Int) (x : Sl) : Bool := decide (x.pl = k) && decide (0 < x.given.length)
def shownS (l : List Nd) (k t : Int) : List Int := if idxF (inSlot k) (slotsR l t) < 0 then (l.getD k.toNat default).kids else ((slotsR l t).getD (idxF (inSlot k) (slotsR l t)).toNat default).given
def shownL (l : List Nd) (k : Int) : List Int :=
  if 0 ≤ rtI l k then (l.getD (rtI l k).toNat default).kids
  else if 90 ≤ (l.getD k.toNat default).tag ∧ 0 ≤ (l.getD (topSt l k).toNat default).host then shownS l k (topSt l k) else (l.getD k.toNat default).kids
structure SlInv (l : List Nd) (H : Int) (L : List Int) (out : List Sl) : Prop where
  pls : out.map Sl.pl = L.filter fun k => decide (90 ≤ (l.getD k.toNat default).tag)
  num : ∀ x ∈ out, x.num = (l.getD x.pl.toNat default).tag - 90 ∧ 90 ≤ (l.getD x.pl.toNat default).tag ∧ (x.given = [] ∨ x.given = givL l H x.num)
  one : out.Pairwise fun x y => x.num = y.num → y.given = []
theorem slInv_s {l : List Nd} {H : Int} {L : List Int} {out : List Sl} (I : SlInv l H L out) (k : Int) : SlInv l H (L ++ [k]) (slStep l H out k) := by
  unfold slStep
  by_cases q : (l.getD k.toNat default).tag < 90
  · rw [if_pos q]
    refine ⟨?_, I.num, I.one⟩
    rw [List.filter_append, List.filter_cons_of_neg (by simpa using q), List.filter_nil, List.append_nil]; exact I.pls
  · rw [if_neg q]
    refine ⟨?_, fun x hx => ?_, ?_⟩
    · rw [List.map_append, List.filter_append, List.filter_cons_of_pos (p := fun k : Int => decide (90 ≤ (l.getD k.toNat default).tag)) (decide_eq_true (show 90 ≤ (l.getD k.toNat default).tag by omega)), List.filter_nil, I.pls]; rfl
    · rcases List.mem_append.1 hx with hx | hx
      · exact I.num x hx
      · rw [List.mem_singleton] at hx
        subst hx
        refine ⟨rfl, by show 90 ≤ (l.getD k.toNat default).tag; omega, ?_⟩
        show (if _ then _ else _) = [] ∨ (if _ then _ else _) = _
        split
        · exact .inl rfl
        · exact .inr rfl
    · rw [List.pairwise_append]
      refine ⟨I.one, List.pairwise_singleton _ _, fun x hx y hy e => ?_⟩
      rw [List.mem_singleton] at hy
      subst hy
      show (if _ then _ else _) = []
      rw [if_pos (List.any_eq_true.2 ⟨x, hx, decide_eq_true e⟩)]
theorem slInv_f {l : List Nd} {H : Int} : ∀ (L done : List Int) (out : List Sl), SlInv l H done out → SlInv l H (done ++ L) (L.foldl (slStep l H) out)
  | [], done, out, I => by rw [List.append_nil]; exact I
  | k :: L, done, out, I => by
    have := slInv_f L (done ++ [k]) _ (slInv_s I k)
    rwa [List.append_assoc] at this
theorem slInv (l : List Nd) (H : Int) (L : List Int) : SlInv l H L (slotsL l H L) := slInv_f L [] [] ⟨rfl, fun x hx => (by cases hx), List.Pairwise.nil⟩
theorem sl_uniq {l : List Nd} {H : Int} {L : List Int} {x y : Sl} {c : Int} (hx : x ∈ slotsL l H L) (hy : y ∈ slotsL l H L) (h1 : c ∈ x.given) (h2 : c ∈ y.given) : x = y := by
  have I := slInv l H L
  have num : ∀ z ∈ slotsL l H L, c ∈ z.given → (l.getD c.toNat default).mark = z.num := fun z hz hc => by
    rcases (I.num z hz).2.2 with e | e
    · rw [e] at hc; cases hc
    · rw [e] at hc
      exact of_decide_eq_true (List.mem_filter.1 hc).2
  obtain ⟨i, hi, rfl⟩ := List.getElem_of_mem hx
  obtain ⟨j, hj, rfl⟩ := List.getElem_of_mem hy
  have P := List.pairwise_iff_getElem.1 I.one
  have e := (num _ hx h1).symm.trans (num _ hy h2)
  rcases Nat.lt_trichotomy i j with q | q | q
  · have := P i j hi hj q e
    rw [this] at h2; cases h2
  · subst q; rfl
  · have := P j i hj hi q e.symm
    rw [this] at h1; cases h1
theorem sl_given {l : List Nd} {H : Int} {L : List Int} {x : Sl} {c : Int} (hx : x ∈ slotsL l H L) (h1 : c ∈ x.given) : x.given = givL l H x.num ∧ c ∈ (l.getD H.toNat default).kids ∧ (l.getD c.toNat default).mark = x.num ∧ x.pl ∈ L ∧ 90 ≤ (l.getD x.pl.toNat default).tag := by
  have I := slInv l H L
  obtain ⟨a, b, d⟩ := I.num x hx
  have hp : x.pl ∈ (slotsL l H L).map Sl.pl := List.mem_map.2 ⟨x, hx, rfl⟩
  rw [I.pls] at hp
  rcases d with e | e
  · rw [e] at h1; cases h1
  · have h2 := h1
    rw [e] at h2
    exact ⟨e, (List.mem_filter.1 h2).1, of_decide_eq_true (List.mem_filter.1 h2).2, (List.mem_filter.1 hp).1, b⟩
section
variable {l : List Nd}
theorem rt_hit {k : Int} (q : 0 ≤ rtI l k) : (rtI l k < (l.length : Int)) ∧ (l.getD (rtI l k).toNat default).host = k := by
  rcases idxF_cases (fun n : Nd => decide (n.host = k)) default l with ⟨e, _⟩ | ⟨i, e, hi, hp, _⟩
  · unfold rtI at q; omega
  · have e : rtI l k = (i : Int) := e
    rw [e, Int.toNat_natCast]
    exact ⟨by omega, of_decide_eq_true hp⟩
theorem rt_none {k : Int} (q : ¬ 0 ≤ rtI l k) {r : Int} (hr : 0 ≤ r ∧ r < (l.length : Int)) : (l.getD r.toNat default).host ≠ k := fun e => by
  rcases idxF_cases (fun n : Nd => decide (n.host = k)) default l with ⟨_, e2⟩ | ⟨i, e2, hi, hp, _⟩
  · have := e2 _ (mem_getD (d := default) (show r.toNat < l.length by omega))
    rw [decide_eq_true e] at this; cases this
  · exact q (by show 0 ≤ idxF _ l; omega)
theorem rt_of (h : checkSt l = 0) {k r : Int} (hr : 0 ≤ r ∧ r < (l.length : Int)) (e : (l.getD r.toNat default).host = k) (hk : 0 ≤ k) : rtI l k = r := by
  by_cases q : 0 ≤ rtI l k
  · have hh := rt_hit q
    exact (right_to h).one _ _ ⟨q, hh.1⟩ hr (by rw [hh.2]; exact hk) (by rw [hh.2, e])
  · exact absurd e (rt_none q hr)
theorem line_ind (h : checkSt l = 0) {P : Int → Prop} (step : ∀ k, 0 ≤ k ∧ k < (l.length : Int) → (0 ≤ above (l.getD k.toNat default) → P (above (l.getD k.toNat default))) → P k) : ∀ k, 0 ≤ k ∧ k < (l.length : Int) → P k := by
  have key : ∀ (d : Nat) (k : Int), 0 ≤ k ∧ k < (l.length : Int) → dpt l k = d → P k := fun d => by
    induction d with
    | zero => intro k hk e; rw [dpt_eq h hk] at e; cases e
    | succ d ih =>
      intro k hk e
      refine step k hk fun h0 => ih _ ⟨h0, (above_in (checkSt_nodes h) hk).2⟩ ?_
      rw [dpt_eq h hk] at e; omega
  exact fun k hk => key _ k hk rfl
theorem lnSelf (h : checkSt l = 0) {k : Int} (hk : 0 ≤ k ∧ k < (l.length : Int)) : k ∈ line l k := by rw [line_eq h hk]; exact .head _
theorem lnMem (h : checkSt l = 0) {k x : Int} (hk : 0 ≤ k ∧ k < (l.length : Int)) : x ∈ line l k ↔ x = k ∨ x ∈ line l (above (l.getD k.toNat default)) := by rw [line_eq h hk, List.mem_cons]
theorem line_up (h : checkSt l = 0) {k x : Int} (hk : 0 ≤ k ∧ k < (l.length : Int)) (hx : x ∈ line l (above (l.getD k.toNat default))) : 0 ≤ above (l.getD k.toNat default) := Classical.byContradiction fun q => by
  rw [line_neg (by omega)] at hx; cases hx
theorem line_trans (h : checkSt l = 0) {x y : Int} : ∀ k, 0 ≤ k ∧ k < (l.length : Int) → x ∈ line l k → y ∈ line l x → y ∈ line l k :=
  line_ind h (P := fun k => x ∈ line l k → y ∈ line l x → y ∈ line l k) fun k hk ih h1 h2 => by
    rcases (lnMem h hk).1 h1 with e | q
    · rw [← e]; exact h2
    · exact (lnMem h hk).2 (.inr (ih (line_up h hk q) q h2))
theorem line_two (h : checkSt l = 0) {x y : Int} : ∀ k, 0 ≤ k ∧ k < (l.length : Int) → x ∈ line l k → y ∈ line l k → x ∈ line l y ∨ y ∈ line l x :=
  line_ind h (P := fun k => x ∈ line l k → y ∈ line l k → x ∈ line l y ∨ y ∈ line l x) fun k hk ih h1 h2 => by
    rcases (lnMem h hk).1 h1 with e | q
    · exact .inr (by rw [e]; exact h2)
    · rcases (lnMem h hk).1 h2 with e | q2
      · exact .inl (by rw [e]; exact h1)
      · exact ih (line_up h hk q) q q2
def dig (l : List Nd) (k : Int) : Nat := if 0 ≤ (l.getD k.toNat default).host then 1 else 2
def rkL (l : List Nd) : List Int → Nat
  | [] => 0
  | k :: r => rkL l r + dig l k * 3 ^ (l.length - (r.length + 1))
def rk (l : List Nd) (k : Int) : Nat := rkL l (line l k)
def ex (l : List Nd) (k : Int) : Nat := 3 ^ (l.length - dpt l k)
theorem rk_eq (h : checkSt l = 0) {k : Int} (hk : 0 ≤ k ∧ k < (l.length : Int)) : rk l k = rk l (above (l.getD k.toNat default)) + dig l k * ex l k := by
  unfold rk ex
  rw [dpt_eq h hk, line_eq h hk]; rfl
theorem ex_eq (h : checkSt l = 0) {k : Int} (hk : 0 ≤ k ∧ k < (l.length : Int)) : ex l (above (l.getD k.toNat default)) = 3 * ex l k := by
  have h1 := dpt_le h hk
  unfold ex
  rw [dpt_eq h hk] at h1 ⊢
  rw [show l.length - dpt l (above (l.getD k.toNat default)) = (l.length - (dpt l (above (l.getD k.toNat default)) + 1)) + 1 by omega, Nat.pow_succ, Nat.mul_comm]
theorem ex_pos (h : checkSt l = 0) (k : Int) : 0 < ex l k := Nat.pow_pos (by decide)
theorem dig_12 (h : checkSt l = 0) (k : Int) : 1 ≤ dig l k ∧ dig l k ≤ 2 := by unfold dig; split <;> omega
theorem rk_one (h : checkSt l = 0) {k : Int} (hk : 0 ≤ k ∧ k < (l.length : Int)) : rk l (above (l.getD k.toNat default)) < rk l k ∧ rk l k + ex l k ≤ rk l (above (l.getD k.toNat default)) + ex l (above (l.getD k.toNat default)) := by
  have h1 := rk_eq h hk; have h2 := ex_eq h hk; have h3 := ex_pos h k; have h4 := dig_12 h k
  have h5 : 1 * ex l k ≤ dig l k * ex l k := Nat.mul_le_mul_right _ h4.1
  have h6 : dig l k * ex l k ≤ 2 * ex l k := Nat.mul_le_mul_right _ h4.2
  omega
theorem rk_up (h : checkSt l = 0) {x : Int} : ∀ k, 0 ≤ k ∧ k < (l.length : Int) → x ∈ line l k → rk l k + ex l k ≤ rk l x + ex l x ∧ rk l x ≤ rk l k :=
  line_ind h (P := fun k => x ∈ line l k → rk l k + ex l k ≤ rk l x + ex l x ∧ rk l x ≤ rk l k) fun k hk ih hx => by
    rcases (lnMem h hk).1 hx with e | q
    · rw [e]; exact ⟨Nat.le_refl _, Nat.le_refl _⟩
    · have := ih (line_up h hk q) q
      have := rk_one h hk
      omega
theorem rk_lid (h : checkSt l = 0) : ∀ k, 0 ≤ k ∧ k < (l.length : Int) → rk l k ≤ 3 ^ l.length := fun k hk => by
  have key := line_ind h (P := fun k => rk l k + ex l k ≤ 3 ^ l.length) (fun k hk ih => by
    have h1 := rk_one h hk
    by_cases q : 0 ≤ above (l.getD k.toNat default)
    · have := ih q; omega
    · have e1 : rk l (above (l.getD k.toNat default)) = 0 := by unfold rk; rw [line_neg (by omega)]; rfl
      have e2 : ex l (above (l.getD k.toNat default)) = 3 ^ l.length := by unfold ex dpt; rw [line_neg (by omega)]; rfl
      omega) k hk
  omega
theorem kid_above (h : checkSt l = 0) {k c : Int} (hk : 0 ≤ k ∧ k < (l.length : Int)) (hc : c ∈ (l.getD k.toNat default).kids) : (0 ≤ c ∧ c < (l.length : Int)) ∧ (l.getD c.toNat default).used = true ∧ (l.getD c.toNat default).par = k ∧ above (l.getD c.toNat default) = k ∧ (l.getD c.toNat default).host < 0 := by
  obtain ⟨a, b, d, _⟩ := kid_up h hk hc
  have := above_par h a (by omega)
  exact ⟨a, b, d, by rw [this.1, d], this.2⟩
theorem host_above (h : checkSt l = 0) {r H : Int} (e : (l.getD r.toNat default).host = H) (hH : 0 ≤ H) : above (l.getD r.toNat default) = H := by unfold above; rw [if_pos (by omega), e]
theorem host_in (h : checkSt l = 0) {r H : Int} (hr : 0 ≤ r ∧ r < (l.length : Int)) (e : (l.getD r.toNat default).host = H) (hH : 0 ≤ H) : H < (l.length : Int) ∧ (l.getD r.toNat default).par < 0 ∧ (l.getD H.toNat default).used = true ∧ (l.getD r.toNat default).used = true := by
  have n := st_n1 h hr
  refine ⟨by have := n.host; omega, by have := n.one (by omega); omega, ?_, ?_⟩
  · have := (right_to h).host r hr (by omega)
    rwa [e] at this
  · cases hu : (l.getD r.toNat default).used with
    | true => rfl
    | false => have := (n.free hu).2.2.2.1; omega
theorem topLn (h : checkSt l = 0) : ∀ k, 0 ≤ k ∧ k < (l.length : Int) → topSt l k ∈ line l k ∧ (0 ≤ topSt l k ∧ topSt l k < (l.length : Int)) ∧ (l.getD (topSt l k).toNat default).par < 0 :=
  line_ind h (P := fun k => topSt l k ∈ line l k ∧ (0 ≤ topSt l k ∧ topSt l k < (l.length : Int)) ∧ (l.getD (topSt l k).toNat default).par < 0) fun k hk ih => by
    by_cases hp : 0 ≤ (l.getD k.toNat default).par
    · have ha := (above_par h hk hp).1
      have := ih (by omega)
      rw [ha, ← top_par h hk hp] at this
      exact ⟨(lnMem h hk).2 (.inr (by rw [ha]; exact this.1)), this.2⟩
    · rw [top_self hp]
      exact ⟨lnSelf h hk, hk, by omega⟩
inductive Sh (l : List Nd) (k c : Int) : Prop where
  | root (r : Int) (hr : 0 ≤ r ∧ r < (l.length : Int)) (e : (l.getD r.toNat default).host = k) (hc : c ∈ (l.getD r.toNat default).kids)
  | given (x : Sl) (no : ∀ r, 0 ≤ r ∧ r < (l.length : Int) → (l.getD r.toNat default).host ≠ k) (hH : 0 ≤ (l.getD (topSt l k).toNat default).host) (hx : x ∈ slotsR l (topSt l k)) (e : x.pl = k) (hc : c ∈ x.given)
  | kid (no : ∀ r, 0 ≤ r ∧ r < (l.length : Int) → (l.getD r.toNat default).host ≠ k) (hc : c ∈ (l.getD k.toNat default).kids)
theorem shownS_cases (l : List Nd) (k t : Int) : (shownS l k t = (l.getD k.toNat default).kids ∧ ∀ x ∈ slotsR l t, x.pl = k → x.given = []) ∨ ∃ x ∈ slotsR l t, x.pl = k ∧ x.given ≠ [] ∧ shownS l k t = x.given := by
  unfold shownS
  rcases idxF_cases (inSlot k) default (slotsR l t) with ⟨e, ha⟩ | ⟨i, e, hi, hp, _⟩
  · rw [e, if_pos (by omega)]
    refine .inl ⟨rfl, fun x hx e => ?_⟩
    have := ha x hx
    unfold inSlot at this
    rw [decide_eq_true e, Bool.true_and, decide_eq_false_iff_not] at this
    exact List.eq_nil_of_length_eq_zero (by omega)
  · rw [e, if_neg (by omega), Int.toNat_natCast]
    unfold inSlot at hp
    rw [Bool.and_eq_true, decide_eq_true_iff, decide_eq_true_iff] at hp
    exact .inr ⟨_, mem_getD hi, hp.1, fun q => by rw [q] at hp; exact absurd hp.2 (by simp), rfl⟩
theorem sh_cases {k c : Int} (hc : c ∈ shownL l k) : Sh l k c := by
  unfold shownL at hc
  by_cases q : 0 ≤ rtI l k
  · rw [if_pos q] at hc
    have := rt_hit q
    exact .root (rtI l k) ⟨q, this.1⟩ this.2 hc
  · rw [if_neg q] at hc
    have no := fun r hr => rt_none q (r := r) hr
    split at hc
    · rename_i q2
      rcases shownS_cases l k (topSt l k) with ⟨e, _⟩ | ⟨x, hx, e, _, e2⟩
      · rw [e] at hc; exact .kid no hc
      · rw [e2] at hc; exact .given x no q2.2 hx e hc
    · exact .kid no hc
theorem given_of (h : checkSt l = 0) {k c : Int} (hk : 0 ≤ k ∧ k < (l.length : Int)) {x : Sl} (hH : 0 ≤ (l.getD (topSt l k).toNat default).host) (hx : x ∈ slotsR l (topSt l k)) (hc : c ∈ x.given) :
    (l.getD (topSt l k).toNat default).host < (l.length : Int) ∧ c ∈ (l.getD (l.getD (topSt l k).toNat default).host.toNat default).kids := by
  have ht := topLn h k hk
  exact ⟨(host_in h ht.2.1 rfl hH).1, (sl_given hx hc).2.1⟩
theorem sh_in (h : checkSt l = 0) {k c : Int} (hk : 0 ≤ k ∧ k < (l.length : Int)) (s : Sh l k c) : (0 ≤ c ∧ c < (l.length : Int)) ∧ (l.getD c.toNat default).used = true ∧ 0 ≤ (l.getD c.toNat default).par ∧ (l.getD c.toNat default).host < 0 := by
  cases s with
  | root r hr e hc => have := kid_above h hr hc; exact ⟨this.1, this.2.1, by omega, this.2.2.2.2⟩
  | given x no hH hx e hc =>
    have h1 := given_of h hk hH hx hc
    have := kid_above h ⟨hH, h1.1⟩ h1.2
    exact ⟨this.1, this.2.1, by omega, this.2.2.2.2⟩
  | kid no hc => have := kid_above h hk hc; exact ⟨this.1, this.2.1, by omega, this.2.2.2.2⟩
theorem sh_rank (h : checkSt l = 0) {k c : Int} (hk : 0 ≤ k ∧ k < (l.length : Int)) (s : Sh l k c) : rk l k < rk l c := by
  cases s with
  | root r hr e hc =>
    have h1 := kid_above h hr hc
    have h2 := (rk_one h h1.1).1
    have h3 := (rk_one h hr).1
    rw [h1.2.2.2.1] at h2
    rw [host_above h e hk.1] at h3
    omega
  | given x no hH hx e hc =>
    have h1 := given_of h hk hH hx hc
    have h2 := kid_above h ⟨hH, h1.1⟩ h1.2
    have ht := topLn h k hk
    have ha := host_above h (r := topSt l k) rfl hH
    have r1 := rk_eq h h2.1
    have r2 := rk_eq h ht.2.1
    have r3 := rk_up h k hk ht.1
    have e1 := ex_eq h h2.1
    have e2 := ex_eq h ht.2.1
    have d1 : dig l c = 2 := by unfold dig; rw [if_neg (by omega)]
    have d2 : dig l (topSt l k) = 1 := by unfold dig; rw [if_pos hH]
    have e3 := ex_pos h k
    rw [h2.2.2.2.1, d1] at r1
    rw [h2.2.2.2.1] at e1
    rw [ha, d2] at r2
    rw [ha] at e2
    omega
  | kid no hc =>
    have h1 := kid_above h hk hc
    have h2 := (rk_one h h1.1).1
    rw [h1.2.2.2.1] at h2
    exact h2
theorem under_in (h : checkSt l = 0) {k x : Int} (hk : 0 ≤ k ∧ k < (l.length : Int)) (u : Under (shownL l) k x) : (0 ≤ x ∧ x < (l.length : Int)) ∧ rk l k ≤ rk l x ∧ ((l.getD k.toNat default).used = true → (l.getD x.toNat default).used = true) ∧ (0 ≤ (l.getD x.toNat default).host → x = k) := by
  induction u with
  | refl => exact ⟨hk, Nat.le_refl _, id, fun _ => rfl⟩
  | step _ hm ih =>
    have s := sh_cases hm
    have a := sh_in h ih.1 s
    have b := sh_rank h ih.1 s
    exact ⟨a.1, by omega, fun _ => a.2.1, fun q => by omega⟩
theorem shown_ranked (h : checkSt l = 0) {k : Int} (hk : 0 ≤ k ∧ k < (l.length : Int)) : Ranked (shownL l) (Under (shownL l) k) (rk l) (3 ^ l.length) := ⟨fun x ux c hc => .step ux hc, fun x ux c hc => sh_rank h (under_in h hk ux).1 (sh_cases hc), fun x ux => rk_lid h x (under_in h hk ux).1⟩
theorem under_enter (h : checkSt l = 0) {k x : Int} (hk : 0 ≤ k ∧ k < (l.length : Int)) (u : Under (shownL l) k x) {r H : Int} (hr : 0 ≤ r ∧ r < (l.length : Int)) (e : (l.getD r.toNat default).host = H) (hH : 0 ≤ H) (hHH : 0 ≤ (l.getD H.toNat default).host) (hx : r ∈ line l x) : H ∈ line l k := by
  induction u with
  | refl =>
    refine line_trans h k hk hx ?_
    rw [lnMem h hr, host_above h e hH]
    exact .inr (lnSelf h ⟨hH, (host_in h hr e hH).1⟩)
  | @step y c uy hm ih =>
    have hy := under_in h hk uy
    have s := sh_cases hm
    have hc := sh_in h hy.1 s
    have hne : r ≠ c := fun q => by rw [q] at e; omega
    rcases (lnMem h hc.1).1 hx with q | q
    · exact absurd q hne
    · cases s with
      | root r2 hr2 e2 hc2 =>
        have h1 := kid_above h hr2 hc2
        rw [h1.2.2.2.1] at q
        rcases (lnMem h hr2).1 q with q | q
        · subst q
          rw [e] at e2
          subst e2
          rw [hy.2.2.2 hHH]
          exact lnSelf h hk
        · rw [host_above h e2 hy.1.1] at q
          exact ih q
      | given x2 no hH2 hx2 e2 hc2 =>
        have h1 := given_of h hy.1 hH2 hx2 hc2
        have h2 := kid_above h ⟨hH2, h1.1⟩ h1.2
        rw [h2.2.2.2.1] at q
        have ht := topLn h y hy.1
        refine ih (line_trans h y hy.1 ht.1 ?_)
        rw [lnMem h ht.2.1, host_above h rfl hH2]
        exact .inr q
      | kid no hc2 =>
        have h1 := kid_above h hy.1 hc2
        rw [h1.2.2.2.1] at q
        exact ih q
theorem shown_one (h : checkSt l = 0) {k : Int} (hk : 0 ≤ k ∧ k < (l.length : Int)) : One (shownL l) (Under (shownL l) k) := fun a b c ua ub ha hb => by
  have ia := under_in h hk ua
  have ib := under_in h hk ub
  -- a shows what is in its root, and c's parent is that root
  have rootKid : ∀ {a b : Int} (ia : Under (shownL l) k a) (r : Int) (hr : 0 ≤ r ∧ r < (l.length : Int)) (e : (l.getD r.toNat default).host = a) (ha : 0 ≤ a) (hx : rk l r ≤ rk l k), False := fun {a b} ua r hr e ha hx => by
    have h1 := under_in h hk ua
    have h2 := (rk_one h hr).1
    rw [host_above h e ha] at h2
    omega
  have AB : ∀ {a b : Int} (ua : Under (shownL l) k a) (ub : Under (shownL l) k b) (r : Int) (hr : 0 ≤ r ∧ r < (l.length : Int)) (e : (l.getD r.toNat default).host = a) (hc : c ∈ (l.getD r.toNat default).kids) (x : Sl) (hH : 0 ≤ (l.getD (topSt l b).toNat default).host) (hx : x ∈ slotsR l (topSt l b)) (hcx : c ∈ x.given), False := fun {a b} ua ub r hr e hc x hH hx hcx => by
    have ia := under_in h hk ua
    have ib := under_in h hk ub
    have h1 := given_of h ib.1 hH hx hcx
    have h2 := (kid_above h ⟨hH, h1.1⟩ h1.2).2.2.1
    have h3 := (kid_above h hr hc).2.2.1
    have h4 : (l.getD (topSt l b).toNat default).host = r := by omega
    have ht := topLn h b ib.1
    have h5 := under_enter h hk ub ht.2.1 h4 hr.1 (by omega) ht.1
    exact rootKid (b := b) ua r hr e ia.1.1 (rk_up h k hk h5).2
  have AC : ∀ {a b : Int} (ua : Under (shownL l) k a) (ub : Under (shownL l) k b) (r : Int) (hr : 0 ≤ r ∧ r < (l.length : Int)) (e : (l.getD r.toNat default).host = a) (hc : c ∈ (l.getD r.toNat default).kids) (hcb : c ∈ (l.getD b.toNat default).kids), False := fun {a b} ua ub r hr e hc hcb => by
    have ia := under_in h hk ua
    have ib := under_in h hk ub
    have h3 := (kid_above h hr hc).2.2.1
    have h4 := (kid_above h ib.1 hcb).2.2.1
    have h5 : b = r := by omega
    have h6 := ib.2.2.2 (by rw [h5, e]; exact ia.1.1)
    exact rootKid (b := b) ua r hr e ia.1.1 (by rw [← h5, h6]; exact Nat.le_refl _)
  have BC : ∀ {a b : Int} (ia : 0 ≤ a ∧ a < (l.length : Int)) (ib : 0 ≤ b ∧ b < (l.length : Int)) (x : Sl) (hH : 0 ≤ (l.getD (topSt l a).toNat default).host) (hx : x ∈ slotsR l (topSt l a)) (hcx : c ∈ x.given) (no : ∀ r, 0 ≤ r ∧ r < (l.length : Int) → (l.getD r.toNat default).host ≠ b) (hcb : c ∈ (l.getD b.toNat default).kids), False := fun {a b} ia ib x hH hx hcx no hcb => by
    have h1 := given_of h ia hH hx hcx
    have h2 := (kid_above h ⟨hH, h1.1⟩ h1.2).2.2.1
    have h3 := (kid_above h ib hcb).2.2.1
    exact no _ (topLn h a ia).2.1 (by omega)
  cases sh_cases ha with
  | root r hr e hc =>
    cases sh_cases hb with
    | root r2 hr2 e2 hc2 =>
      have h1 := (kid_above h hr hc).2.2.1
      have h2 := (kid_above h hr2 hc2).2.2.1
      rw [← e, ← e2, show r = r2 by omega]
    | given x no hH hx e2 hc2 => exact (AB ua ub r hr e hc x hH hx hc2).elim
    | kid no hc2 => exact (AC ua ub r hr e hc hc2).elim
  | given x no hH hx e hc =>
    cases sh_cases hb with
    | root r2 hr2 e2 hc2 => exact (AB ub ua r2 hr2 e2 hc2 x hH hx hc).elim
    | given x2 no2 hH2 hx2 e2 hc2 =>
      have h1 := given_of h ia.1 hH hx hc
      have h2 := (kid_above h ⟨hH, h1.1⟩ h1.2).2.2.1
      have h3 := given_of h ib.1 hH2 hx2 hc2
      have h4 := (kid_above h ⟨hH2, h3.1⟩ h3.2).2.2.1
      have h5 := (right_to h).one _ _ (topLn h a ia.1).2.1 (topLn h b ib.1).2.1 hH (by omega)
      rw [← h5] at hx2
      rw [← e, ← e2, sl_uniq hx hx2 hc hc2]
    | kid no2 hc2 => exact (BC ia.1 ib.1 x hH hx hc no2 hc2).elim
  | kid no hc =>
    cases sh_cases hb with
    | root r2 hr2 e2 hc2 => exact (AC ub ua r2 hr2 e2 hc2 hc).elim
    | given x2 no2 hH2 hx2 e2 hc2 => exact (BC ib.1 ia.1 x2 hH2 hx2 hc2 no hc).elim
    | kid no2 hc2 =>
      have h1 := (kid_above h ia.1 hc).2.2.1
      have h2 := (kid_above h ib.1 hc2).2.2.1
      omega
theorem shown_nodup (h : checkSt l = 0) {k : Int} (hk : 0 ≤ k ∧ k < (l.length : Int)) : (shownL l k).Nodup := by
  have K : ∀ {x : Int}, 0 ≤ x ∧ x < (l.length : Int) → (l.getD x.toNat default).kids.Nodup := fun hx => kids_nodup h (by omega)
  unfold shownL
  split
  · rename_i q; exact K ⟨q, (rt_hit q).1⟩
  · split
    · rename_i q2
      rcases shownS_cases l k (topSt l k) with ⟨e, _⟩ | ⟨x, hx, e, hne, e2⟩
      · rw [e]; exact K hk
      · rw [e2]
        obtain ⟨c, hc⟩ := List.exists_mem_of_ne_nil _ hne
        rw [(sl_given hx hc).1]
        exact (K ⟨q2.2, (host_in h (topLn h k hk).2.1 rfl q2.2).1⟩).filter _
    · exact K hk
def flatP (l : List Nd) (k : Int) : List Int := preO (shownL l) (3 ^ l.length) k
theorem flat_nodup (h : checkSt l = 0) {k : Int} (hk : 0 ≤ k ∧ k < (l.length : Int)) : (flatP l k).Nodup := pre_nodup (shown_ranked h hk) (shown_one h hk) (fun x ux => shown_nodup h (under_in h hk ux).1) _ k .refl
theorem flat_under (h : checkSt l = 0) {k x : Int} (hx : x ∈ flatP l k) : Under (shownL l) k x := pre_under _ k hx
theorem flat_in (h : checkSt l = 0) {k x : Int} (hk : 0 ≤ k ∧ k < (l.length : Int)) (hx : x ∈ flatP l k) : 0 ≤ x ∧ x < (l.length : Int) := (under_in h hk (flat_under h hx)).1
theorem flat_len2 (h : checkSt l = 0) {k : Int} (hk : 0 ≤ k ∧ k < (l.length : Int)) : (flatP l k).length ≤ l.length := nodup_bound _ _ (flat_nodup h hk) fun x hx => flat_in h hk hx
end
end Go.Proofs.Ytmcdamcedemdiaa
namespace Go.Eng
open Go.RowKit
variable {P : Program} {NN : Nat} {E : Env NN}
end Go.Eng
namespace Go.Eng
open Go.RowKit
variable {P : Program} {NN : Nat} {E : Env NN}
theorem vb_fnB {S : St} {x : Operand} {f : FuncId} {caps : List SV} {j m : Nat} {get : Nat → SV} {ty : TypeId} (l caps' : List SV) (h : Val E S x (fnL f caps)) (ho : lookO j S.owns = some (.box m get ty)) (hm : m = l.length) (hg : AllN (fun t => get t = l.getD t .junk) m) (hro : allRO l = true)
    (hl : caps.length = caps'.length) (he : AllN (fun t => frzB j l (caps.getD t .junk) = caps'.getD t .junk) caps.length) (hr' : (fnL f caps').isRO = true) : VB E S x (fnA f caps') := fun b a w hr => by
  subst hm
  have hall : ∀ (l : List SV), allRO l = true → ∀ t, t < l.length → (l.getD t .junk).isRO = true := by
    intro l
    induction l with
    | nil => intro _ t ht; simp at ht
    | cons x r ih =>
      intro h t ht
      simp only [allRO, Bool.and_eq_true] at h
      cases t with
      | zero => exact h.1
      | succ t => simpa using ih h.2 t (by simpa using ht)
  obtain ⟨g, cs, hb, hbase, hh, hm, hc⟩ := hr.owns j _ ho
  have hX : ∀ g, E.X g → S.excl E b g := fun g hh => .inl hh
  have hcell : ∀ t, t < l.length → ∃ u, w.cell? ⟨g, t, none⟩ = some u ∧ u.oneCell' = true ∧ RO w E.X (l.getD t .junk) u := fun t ht => by
    obtain ⟨u, hu, h4, h5⟩ := hc t ht
    refine ⟨u, by rw [cell_of_row w g t cs ty (0, 0) hh]; exact hu, h4, ?_⟩
    rw [hg.at t ht] at h5
    exact (h5.toRO (hall l hro t ht)).mono ⟨Nat.le_refl _, fun _ _ _ => rfl⟩ (fun g _ hh => hX g hh)
  have h2 := frzB_R (X' := E.X) hX hb (Array.getElem?_eq_some_iff.1 hh).1 (hr.notX ho (by rw [hb]; exact rfl)) hcell (h b a w hr)
  obtain ⟨cv, hv, hsz, hr2⟩ := h2
  have h3 : R w E.X b (fnL f caps') (a.eval x) := ⟨cv, hv, by rw [hsz, hl], fun t ht => by
    obtain ⟨u, hu, h4⟩ := hr2 t (by rw [hl]; exact ht)
    refine ⟨u, hu, ?_⟩
    show R w E.X b (caps'.getD t .junk) u
    rw [← he.at t (by rw [hl]; exact ht)]; exact h4⟩
  exact h3.toRO hr'
end Go.Eng
namespace Go.Proofs.Ytmcdamcedemdiaa
open Go.RowKit Go.Eng
section
variable {l : List He} {p : Int} {i : Nat}
end
theorem kget_cons {β : Type} (p : Int × β) (r : List (Int × β)) (j : Int) : kget (p :: r) j = if p.1 = j then some p.2 else kget r j := by
  unfold kget; rw [List.find?_cons]
  by_cases e : p.1 = j
  · rw [if_pos e, decide_eq_true e]; rfl
  · rw [if_neg e, decide_eq_false e]
theorem kget_put {β : Type} : ∀ (l : List (Int × β)) (k j : Int) (v : β), kget (kput l k v) j = if j = k then some v else kget l j
  | [], k, j, v => by
    rw [kput, kget_cons]
    by_cases e : j = k
    · rw [if_pos e, if_pos e.symm]
    · rw [if_neg e, if_neg fun q => e q.symm]
  | p :: r, k, j, v => by
    rw [kput]
    by_cases c : p.1 = k
    · rw [if_pos c, kget_cons, kget_cons]
      by_cases e : j = k
      · rw [if_pos e, if_pos e.symm]
      · rw [if_neg e, if_neg (fun q => e q.symm), if_neg (fun q => e (q.symm.trans c))]
    · rw [if_neg c, kget_cons, kget_cons, kget_put r k j v]
      by_cases e : j = k
      · rw [if_neg (fun q => c (q.trans e)), if_pos e, if_pos e]
      · rw [if_neg e, if_neg e]
structure Desk where
  calls : List Ca
  heard : List (Int × Bool)
  stop : Bool
section
variable {p : He → Bool} {k tg ph : Int} {hs : List He} {D : Desk} {i : Nat}
end
section
variable {l : List Nd} {hs : List He} {t : Hd}
end
section
variable {l : List Nd} {t : Int} {hs : List He} {D : Desk} {i : Nat}
end
end Go.Proofs.Ytmcdamcedemdiaa
