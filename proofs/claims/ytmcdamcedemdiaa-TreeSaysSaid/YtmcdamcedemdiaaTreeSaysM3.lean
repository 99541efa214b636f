/- What the proof of TreeSays rests on, part 3: the engine, the walks, the plain laws. -/
import Derived.Test.YtmcdamcedemdiaaTreeSaysM2
set_option linter.unusedVariables false
set_option linter.unusedSimpArgs false
namespace Go.Proofs.Ytmcdamcedemdiaa
open Go.RowKit Go.Eng
def holdsWho (l : List Nd) (h : Hd) : Bool := ((decide (h.pl < 0) || decide ((l.length : Int) ≤ h.pl)) || decide (h.use < 1)) || decide ((l.getD h.pl.toNat default).uses < h.use)
def holdsGone (l : List Nd) (h : Hd) : Bool := (!(l.getD h.pl.toNat default).used) || (!decide ((l.getD h.pl.toNat default).uses = h.use))
def holdsSt (l : List Nd) (h : Hd) : Int := if holdsWho l h = true then 4 else if holdsGone l h = true then 5 else 0
theorem holds_4 {l : List Nd} {h : Hd} (q : holdsWho l h = true) : holdsSt l h = 4 := if_pos q
theorem holds_5 {l : List Nd} {h : Hd} (q : holdsWho l h = false) (q2 : holdsGone l h = true) : holdsSt l h = 5 := by unfold holdsSt; rw [if_neg (ff q), if_pos q2]
theorem holds_0 {l : List Nd} {h : Hd} (q : holdsWho l h = false) (q2 : holdsGone l h = false) : holdsSt l h = 0 := by unfold holdsSt; rw [if_neg (ff q), if_neg (ff q2)]
theorem who_r (l : List Nd) (h : Hd) : ((!inI h.pl 0 ((l.length : Int) - 1)) || (!inI h.use 1 (l.getD h.pl.toNat default).uses)) = holdsWho l h := by
  unfold inI holdsWho
  rw [Bool.eq_iff_iff]
  simp only [Bool.or_eq_true, Bool.not_eq_true', Bool.and_eq_false_iff, decide_eq_false_iff_not, decide_eq_true_eq]
  omega
theorem gone_r {l : List Nd} {h : Hd} (q : holdsWho l h = false) : ((!(l.getD h.pl.toNat default).used) || decide (h.use < (l.getD h.pl.toNat default).uses)) = holdsGone l h := by
  simp only [holdsWho, Bool.or_eq_false_iff, decide_eq_false_iff_not] at q
  have : decide (h.use < (l.getD h.pl.toNat default).uses) = !decide ((l.getD h.pl.toNat default).uses = h.use) := by
    rw [← decide_not, Bool.eq_iff_iff, decide_eq_true_iff, decide_eq_true_iff]; omega
  unfold holdsGone
  rw [this]
theorem who_in {l : List Nd} {h : Hd} (q : holdsWho l h = false) : 0 ≤ h.pl ∧ h.pl < (l.length : Int) ∧ 1 ≤ h.use ∧ h.use ≤ (l.getD h.pl.toNat default).uses := by
  simp only [holdsWho, Bool.or_eq_false_iff, decide_eq_false_iff_not] at q; omega
theorem holds_in {l : List Nd} {h : Hd} (q : holdsSt l h = 0) : 0 ≤ h.pl ∧ h.pl < (l.length : Int) ∧ 1 ≤ h.use ∧ (l.getD h.pl.toNat default).used = true ∧ (l.getD h.pl.toNat default).uses = h.use := by
  unfold holdsSt at q
  split at q; · cases q
  rename_i h1
  split at q; · cases q
  rename_i h2
  obtain ⟨a, b, c, d⟩ := who_in (by simpa using h1)
  have h2 : holdsGone l h = false := by simpa using h2
  simp only [holdsGone, Bool.or_eq_false_iff, Bool.not_eq_false', decide_eq_true_eq] at h2
  exact ⟨a, b, c, h2.1, h2.2⟩
def stepH (l : List Nd) (e : Int) (h : Hd) : Int := if e = 0 then holdsSt l h else e
def firstSt (l : List Nd) (hs : List Hd) : Int := hs.foldl (stepH l) (checkSt l)
theorem foldl_take_s {α β : Type} (f : β → α → β) (b : β) (d : α) (l : List α) (i : Nat) (h : i < l.length) : (l.take (i + 1)).foldl f b = f ((l.take i).foldl f b) (l.getD i d) := by
  rw [take_s d h, List.foldl_append]; rfl
theorem checkSt_len {l : List Nd} (h : checkSt l = 0) : l.length ≤ 24 := by
  unfold checkSt at h
  split at h
  · cases h
  · omega
theorem checkSt_nodes {l : List Nd} (h : checkSt l = 0) : nodesErr l = 0 := by
  unfold checkSt at h
  split at h
  · cases h
  · split at h
    · rename_i h1; exact absurd h h1
    · rename_i h1; simpa using h1
theorem checkSt_links {l : List Nd} (h : checkSt l = 0) : linksB l = true := by
  unfold checkSt at h
  split at h
  · cases h
  · split at h
    · rename_i h1; exact absurd h h1
    · split at h
      · assumption
      · cases h
theorem checkSt_of {l : List Nd} (h1 : l.length ≤ 24) (h2 : nodesErr l = 0) (h3 : linksB l = true) : checkSt l = 0 := by
  unfold checkSt; rw [if_neg (by omega), h2, if_neg (by simp), if_pos h3]
theorem count_flat_le (c : Int) : ∀ {l : List Nd} {x : Nd}, x ∈ l → x.kids.count c ≤ (l.flatMap Nd.kids).count c
  | y :: r, _, .head _ => by rw [List.flatMap_cons, List.count_append]; exact Nat.le_add_right _ _
  | y :: r, x, .tail _ h => by rw [List.flatMap_cons, List.count_append]; exact Nat.le_trans (count_flat_le c h) (Nat.le_add_left _ _)
theorem kids_few {l : List Nd} (h : checkSt l = 0) {i : Nat} (hi : i < l.length) : (l.getD i default).kids.length ≤ 24 := by
  have hl := linksB_iff.1 (checkSt_links h)
  have h24 := checkSt_len h
  have hn := nodesErr_at (checkSt_nodes h) hi
  have hnd : (l.getD i default).kids.Nodup := by
    rw [List.nodup_iff_count]
    intro c
    by_cases hc : c ∈ (l.getD i default).kids
    · have h1 := (hl i hi).1
      simp only [link1, Bool.and_eq_true, List.all_eq_true] at h1
      have h2 := h1.1 c hc
      simp only [kidOk, Bool.and_eq_true, decide_eq_true_eq] at h2
      have h3 := (hl c.toNat (by have := hn.kids c hc; omega)).2
      simp only [link2, Bool.and_eq_true, decide_eq_true_eq, kcnt] at h3
      have h4 := count_flat_le c (mem_getD (d := default) hi)
      have e : ((c.toNat : Nat) : Int) = c := by omega
      have h5 := h3.1.1.1
      rw [e] at h5
      exact Nat.le_trans h4 (of_decide_eq_true h5)
    · rw [List.count_eq_zero_of_not_mem hc]; exact Nat.zero_le _
  have := nodup_bound l.length _ hnd fun k hk => by
    have h1 := (hl i hi).1
    simp only [link1, Bool.and_eq_true, List.all_eq_true] at h1
    have h2 := h1.1 k hk
    simp only [kidOk, Bool.and_eq_true, decide_eq_true_eq] at h2
    exact ⟨h2.1.1, (hn.kids k hk).2⟩
  omega
theorem kb_nil : ∀ n ∈ ([] : List Nd), n.kids.length ≤ 17592186043904 := fun _ h => (by cases h)
theorem kb_of {l : List Nd} (h : checkSt l = 0) : ∀ n ∈ l, n.kids.length ≤ 17592186043904 := fun n hn => by
  obtain ⟨i, hi, rfl⟩ := getD_of_mem default hn
  have := kids_few h hi
  omega
def roomB (n : Nd) : Bool := (!n.used) && decide (n.uses < 1000000)
def mkAt (l : List Nd) (k : Nat) (tag : Int) : List Nd := l.set k { (l.getD k default) with used := true, tag := tag, uses := (l.getD k default).uses + 1 }
def mkSt (l : List Nd) (tag : Int) : List Nd × Hd × Int :=
  if checkSt l ≠ 0 then ([], ⟨0, 0⟩, checkSt l) else if tag < 0 ∨ 99 < tag then ([], ⟨0, 0⟩, 2) else if idxF roomB l < 0 then ([], ⟨0, 0⟩, 1)
  else (mkAt l (idxF roomB l).toNat tag, ⟨idxF roomB l, (l.getD (idxF roomB l).toNat default).uses + 1⟩, 0)
end Go.Proofs.Ytmcdamcedemdiaa
namespace Go.Proofs.Ytmcdamcedemdiaa
open Go.RowKit Go.Eng
theorem holds_ct (l : List Nd) (h : Hd) : Ct Try.prog 45 [SV.agg 1 (stG l), SV.agg 2 (hdCell h)] (iv (holdsSt l h)) := by
 refine CtO 50 Try.func45 rfl rfl rfl fun E => row_lenA 0 (V (s := 0) rfl) rfl rfl fun hl0_0 => Sq <| Rt <| BxA 1 (V rfl) rfl rfl <| BxA 2 (V rfl) rfl rfl <| U (As K) <| Nt <| Sq <| Sq <| Rqd (by kernel_rfl) (by kernel_rfl) <| O (FlB _ _ (V rfl) Un26 rfl 0 Sz3) <| O (LdB (V rfl) rfl Ga3 (by decide)) <| O (Lt (V rfl) K) <| O (Mv (V rfl)) <| Og (Gn rfl rfl) (fun hg => FlB _ _ (V rfl) Un26 rfl 0 Sz3) <| Og (Gn rfl rfl) (fun hg => LdB (Vg (V rfl) hg) rfl Ga3 (by decide)) <| Og (Gn rfl rfl) (fun hg => FlB _ _ (V rfl) Un24 rfl 0 Sz22) <| Og (Gn rfl rfl) (fun hg => LdB (Vg (V rfl) hg) rfl Ga22 (by decide)) <| Og (Gn rfl rfl) (fun hg => Ln (Vg (V rfl) hg) ts22) <| Og (Gn rfl rfl) (fun hg => Ge (Vg (V rfl) hg) (Vg (V rfl) hg)) <| O (Qr (V rfl) (fun h => Vg (V rfl) (notT h))) <| O (Mv (V rfl)) <| Og (Gn rfl rfl) (fun hg => FlB _ _ (V rfl) Un26 rfl 0 Sz3) <| Og (Gn rfl rfl) (fun hg => LdB (Vg (V rfl) hg) rfl Ga3 (by decide)) <| Og (Gn rfl rfl) (fun hg => Lt (Vg (V rfl) hg) K) <| O (Qr (V rfl) (fun h => Vg (V rfl) (notT h))) <| O (Mv (V rfl)) <| Og (Gn rfl rfl) (fun hg => FlB _ _ (V rfl) Un26 rfl 0 Sz3) <| Og (Gn rfl rfl) (fun hg => LdB (Vg (V rfl) hg) rfl Ga3 (by decide)) <| Og (Gn rfl rfl) (fun hg => FlB _ _ (V rfl) Un24 rfl 0 Sz22) <| Og (Gn rfl rfl) (fun hg => LdB (Vg (V rfl) hg) rfl Ga22 (by decide)) <| Og (Gn rfl rfl) (fun hg => FlB _ _ (V rfl) Un26 rfl 0 Sz3) <| Og (Gn rfl rfl) (fun hg => LdB (Vg (V rfl) hg) rfl Ga3 (by decide)) <| Og (Gn rfl rfl) (fun hg => Ix (Vg (V rfl) hg) (Vg (V rfl) hg) ts22 te22 (by have hgs := hg; try simp only [BL] at hgs; omega) (by have hgs := hg; try simp only [BL] at hgs; omega)) <| Og (Gn rfl rfl) (fun hg => Fl _ _ (Vg (V rfl) hg) Un61 rfl 0 Sz3) <| Og (Gn rfl rfl) (fun hg => Ld (Vg (V rfl) hg) Ga3 (by decide)) <| Og (Gn rfl rfl) (fun hg => Gt (Vg (V rfl) hg) (Vg (V rfl) hg)) <| O (Qr (V rfl) (fun h => Vg (V rfl) (notT h))) <| Nq <| ?_
 refine Cd (V rfl) (fun hc1 => ?_) (fun hc1 => ?_)
 ·have hc1s := hc1; try simp only [BL] at hc1s
  exact Sq <| Rq <| O (As K) <| Nq <| Rx <| R1 rfl (V rfl) rfl (by show iv (4) = iv (holdsSt l h); rw [holds_4 hc1])
 ·have hc1s := hc1; try simp only [BL] at hc1s
  have hin := who_in hc1
  refine Sk <| Sq <| Sq <| Rt <| U (FlB _ _ (V rfl) Un24 rfl 0 Sz22) <| U (LdB (V rfl) rfl Ga22 (by decide)) <| U (FlB _ _ (V rfl) Un26 rfl 0 Sz3) <| U (LdB (V rfl) rfl Ga3 (by decide)) <| U (Ix (V rfl) (V rfl) ts22 te22 (by omega) (by omega)) <| U (LdA (V rfl) Ga61 Sz61 (by decide)) <| Al 3 zero61 rfl rfl <| StA (V rfl) rfl (V rfl) Sz61 <| Nt <| Sq <| Rq <| O (FlB _ _ (V rfl) Un61 rfl 0 Sz4) <| O (LdB (V rfl) rfl Ga4 (by decide)) <| O (Qo (V rfl)) <| O (Mv (V rfl)) <| Og (Gn rfl rfl) (fun hg => FlB _ _ (V rfl) Un61 rfl 0 Sz3) <| Og (Gn rfl rfl) (fun hg => LdB (Vg (V rfl) hg) rfl Ga3 (by decide)) <| Og (Gn rfl rfl) (fun hg => FlB _ _ (V rfl) Un26 rfl 0 Sz3) <| Og (Gn rfl rfl) (fun hg => LdB (Vg (V rfl) hg) rfl Ga3 (by decide)) <| Og (Gn rfl rfl) (fun hg => Qn (Vg (V rfl) hg) (Vg (V rfl) hg)) <| O (Qr (V rfl) (fun h => Vg (V rfl) (notT h))) <| Nq <| Cd (V rfl) (fun hc2 => ?_) (fun hc2 => ?_)
  ·have hc2s := hc2; try simp only [BL] at hc2s
   exact Sq <| Rq <| O (As K) <| Nq <| Rx <| R1 rfl (V rfl) rfl (by show iv (5) = iv (holdsSt l h); rw [holds_5 hc1 hc2])
  ·have hc2s := hc2; try simp only [BL] at hc2s
   exact Sk <| Sq <| Rq <| O (As K) <| Nq <| Rx <| R1 rfl (V rfl) rfl (by show iv (0) = iv (holdsSt l h); rw [holds_0 hc1 hc2])
theorem rholds_ct (l : List Nd) (h : Hd) : Ct Try.prog 54 [SV.agg 1 (stG l), SV.agg 2 (hdCell h)] (iv (holdsSt l h)) := by
 refine CtO 46 Try.func54 rfl rfl rfl fun E => row_lenA 0 (V (s := 0) rfl) rfl rfl fun hl0_0 => Sq <| Rt <| BxA 1 (V rfl) rfl rfl <| BxA 2 (V rfl) rfl rfl <| U (As K) <| Nt <| Sq <| Sq <| Rqd (by kernel_rfl) (by kernel_rfl) <| O (FlB _ _ (V rfl) Un26 rfl 0 Sz3) <| O (LdB (V rfl) rfl Ga3 (by decide)) <| O (FlB _ _ (V rfl) Un24 rfl 0 Sz22) <| O (LdB (V rfl) rfl Ga22 (by decide)) <| O (Ln (V rfl) ts22) <| O (Sb (V rfl) K (by omega)) <| CQ en120 (by exact ⟨⟨(V rfl), rfl⟩, ⟨K, rfl⟩, ⟨(V rfl), rfl⟩, Z⟩) (in_ct h.pl 0 (((l.length : Int)) - 1)) <| O (Qo (V rfl)) <| O (Mv (V rfl)) <| Og (Gn rfl rfl) (fun hg => FlB _ _ (V rfl) Un26 rfl 0 Sz3) <| Og (Gn rfl rfl) (fun hg => LdB (Vg (V rfl) hg) rfl Ga3 (by decide)) <| Og (Gn rfl rfl) (fun hg => FlB _ _ (V rfl) Un24 rfl 0 Sz22) <| Og (Gn rfl rfl) (fun hg => LdB (Vg (V rfl) hg) rfl Ga22 (by decide)) <| Og (Gn rfl rfl) (fun hg => FlB _ _ (V rfl) Un26 rfl 0 Sz3) <| Og (Gn rfl rfl) (fun hg => LdB (Vg (V rfl) hg) rfl Ga3 (by decide)) <| Og (Gn rfl rfl) (fun hg => Ix (Vg (V rfl) hg) (Vg (V rfl) hg) ts22 te22 (by have hgs := inI_t.1 (by simpa using hg); omega) (by have hgs := inI_t.1 (by simpa using hg); omega)) <| Og (Gn rfl rfl) (fun hg => Fl _ _ (Vg (V rfl) hg) Un61 rfl 0 Sz3) <| Og (Gn rfl rfl) (fun hg => Ld (Vg (V rfl) hg) Ga3 (by decide)) <| CQg (Gn rfl rfl) en120 (fun hg => (by exact ⟨⟨(Vg (V rfl) hg), rfl⟩, ⟨K, rfl⟩, ⟨(Vg (V rfl) hg), rfl⟩, Z⟩)) (fun hg => in_ct h.use 1 ((l.getD (Int.toNat h.pl) default).uses)) <| Og (Gn rfl rfl) (fun hg => Qo (Vg (V rfl) hg)) <| O (Qr (V rfl) (fun h => Vg (V rfl) (notT h))) <| Nq <| Cd (V rfl) (fun hc1 => ?_) (fun hc1 => ?_)
 ·have hc1s := hc1; try simp only [BL] at hc1s
  exact Sq <| Rq <| O (As K) <| Nq <| Rx <| R1 rfl (V rfl) rfl (by show iv (4) = iv (holdsSt l h); rw [holds_4 ((who_r l h).symm.trans hc1)])
 ·have hc1s := hc1; try simp only [BL] at hc1s
  have hw := (who_r l h).symm.trans hc1
  have hin := who_in hw
  refine Sk <| Sq <| Sq <| Rqd (by kernel_rfl) (by kernel_rfl) <| O (FlB _ _ (V rfl) Un24 rfl 0 Sz22) <| O (LdB (V rfl) rfl Ga22 (by decide)) <| O (FlB _ _ (V rfl) Un26 rfl 0 Sz3) <| O (LdB (V rfl) rfl Ga3 (by decide)) <| O (Ix (V rfl) (V rfl) ts22 te22 (by omega) (by omega)) <| O (Fl _ _ (V rfl) Un61 rfl 0 Sz4) <| O (Ld (V rfl) Ga4 (by decide)) <| O (Qo (V rfl)) <| O (Mv (V rfl)) <| Og (Gn rfl rfl) (fun hg => FlB _ _ (V rfl) Un26 rfl 0 Sz3) <| Og (Gn rfl rfl) (fun hg => LdB (Vg (V rfl) hg) rfl Ga3 (by decide)) <| Og (Gn rfl rfl) (fun hg => FlB _ _ (V rfl) Un24 rfl 0 Sz22) <| Og (Gn rfl rfl) (fun hg => LdB (Vg (V rfl) hg) rfl Ga22 (by decide)) <| Og (Gn rfl rfl) (fun hg => FlB _ _ (V rfl) Un26 rfl 0 Sz3) <| Og (Gn rfl rfl) (fun hg => LdB (Vg (V rfl) hg) rfl Ga3 (by decide)) <| Og (Gn rfl rfl) (fun hg => Ix (Vg (V rfl) hg) (Vg (V rfl) hg) ts22 te22 (by have := hg; omega) (by have := hg; omega)) <| Og (Gn rfl rfl) (fun hg => Fl _ _ (Vg (V rfl) hg) Un61 rfl 0 Sz3) <| Og (Gn rfl rfl) (fun hg => Ld (Vg (V rfl) hg) Ga3 (by decide)) <| Og (Gn rfl rfl) (fun hg => Lt (Vg (V rfl) hg) (Vg (V rfl) hg)) <| O (Qr (V rfl) (fun h => Vg (V rfl) (notT h))) <| Nq <| Cd (V rfl) (fun hc2 => ?_) (fun hc2 => ?_)
  ·have hc2s := hc2; try simp only [BL] at hc2s
   exact Sq <| Rq <| O (As K) <| Nq <| Rx <| R1 rfl (V rfl) rfl (by show iv (5) = iv (holdsSt l h); rw [holds_5 hw ((gone_r hw).symm.trans hc2)])
  ·have hc2s := hc2; try simp only [BL] at hc2s
   exact Sk <| Sq <| Rq <| O (As K) <| Nq <| Rx <| R1 rfl (V rfl) rfl (by show iv (0) = iv (holdsSt l h); rw [holds_0 hw ((gone_r hw).symm.trans hc2)])
theorem first_ct (l : List Nd) (hs : List Hd) (hb : ∀ n ∈ l, n.kids.length ≤ 17592186043904) : Ct Try.prog 100 [SV.agg 1 (stG l), hdRow hs] (iv (firstSt l hs)) := by
 refine CtO 23 Try.func100 rfl rfl rfl fun E => row_lenA 0 (V (s := 0) rfl) rfl rfl fun hl0_0 => Rl (V (s := 1) rfl) fun hl1 => Sq <| Rt <| BxA 1 (V rfl) rfl rfl <| U (As K) <| Nt <| Sq <| Rq <| O (LBA (V rfl) rfl Ga24 Sz24 (by decide)) <| CQ en51 (by exact ⟨⟨(Vi (g' := stG l) (V rfl) ⟨Z, Ir⟩), rfl⟩, Z⟩) (rcheck_ct l (by first | assumption | exact kb_nil | exact kb_of (by assumption))) <| O (As (V rfl)) <| Nq <| Sq <| Sq <| Rq <| O (Mv (V rfl)) <| O (Ln (V rfl) ts80) <| O (Mv K) <| Nq <| Bo <| Lo (uc2 fun (i : Nat) (e : Int) => ⟨[(2, SV.bp 1 0), (5, iv (e)), (10, hdRow hs), (11, iv ((hs.length : Int))), (12, iv ((i : Int)))], [(1, Own.box 1 (stG l) 24)]⟩) (uc2 fun (i : Nat) (e : Int) => i ≤ hs.length ∧ e = (hs.take i).foldl (stepH l) (checkSt l)) (uc2 fun (i : Nat) (e : Int) => hs.length - i) (0, checkSt l) (by show 0 ≤ hs.length ∧ (checkSt l) = (hs.take 0).foldl (stepH l) (checkSt l); exact ⟨Nat.zero_le _, rfl⟩) (We (ow := [(1, Own.box 1 (stG l) 24)]) (Vs rfl) (by exact ⟨⟨_, rfl, rfl, rfl, (An rfl)⟩, Z⟩)) <| ?_
 ·rintro ⟨i, e⟩ hI1
  have hJ1 : i ≤ hs.length ∧ e = (hs.take i).foldl (stepH l) (checkSt l) := hI1
  refine Sq <| Rq <| O (Lt (V rfl) (V rfl)) <| Nq <| Sq <| Cd (V rfl) (fun hc1 => ?_) (fun hc1 => ?_)
  ·have hc1s := hc1; try simp only [BL] at hc1s
   refine Sk <| Sq <| Bo <| Sq <| Rt <| U (IxN (i := i) (V rfl) (V rfl) ts80 te80 (by omega)) <| U (LdA (V rfl) Ga26 Sz26 (by decide)) <| Al 2 zero26 rfl rfl <| StA (V rfl) rfl (V rfl) Sz26 <| Nt <| Sq <| Rq <| O (Mv (V rfl)) <| O (Ql (V rfl) K) <| Nq <| Cd (V rfl) (fun hc2 => ?_) (fun hc2 => ?_)
   ·have hc2s := hc2; try simp only [BL] at hc2s
    exact Rq <| O (LBA (V rfl) rfl Ga24 Sz24 (by decide)) <| O (LBA (V rfl) rfl Ga26 Sz26 (by decide)) <| CQ en54 (by exact ⟨⟨(Vi (g' := stG l) (V rfl) ⟨Z, Ir⟩), rfl⟩, ⟨(Vi (g' := hdCell ⟨(hs.getD i default).pl, (hs.getD i default).use⟩) (V rfl) ⟨⟨Z, Ir⟩, Ir⟩), rfl⟩, Z⟩) (rholds_ct l (hs.getD i default)) <| O (As (V rfl)) <| Nq <| Rq <| O (Ad (V rfl) K (by omega)) <| O (Mv (V rfl)) <| Nq <| Nx (i + 1, holdsSt l (hs.getD i default)) (by show (i + 1) ≤ hs.length ∧ (holdsSt l (hs.getD i default)) = (hs.take (i + 1)).foldl (stepH l) (checkSt l); exact ⟨by omega, by rw [foldl_take_s _ _ default _ _ (by omega), ← hJ1.2, stepH, if_pos hc2s]⟩) (by show hs.length - (i + 1) < hs.length - i; omega) (We (ow := [(1, Own.box 1 (stG l) 24)]) (Vs rfl) (by exact ⟨⟨_, rfl, rfl, rfl, (An rfl)⟩, Z⟩))
   ·have hc2s := hc2; try simp only [BL] at hc2s
    exact Sk <| Rq <| O (Ad (V rfl) K (by omega)) <| O (Mv (V rfl)) <| Nq <| Nx (i + 1, e) (by show (i + 1) ≤ hs.length ∧ e = (hs.take (i + 1)).foldl (stepH l) (checkSt l); exact ⟨by omega, by rw [foldl_take_s _ _ default _ _ (by omega), ← hJ1.2, stepH, if_neg hc2s]⟩) (by show hs.length - (i + 1) < hs.length - i; omega) (We (ow := [(1, Own.box 1 (stG l) 24)]) (Vs rfl) (by exact ⟨⟨_, rfl, rfl, rfl, (An rfl)⟩, Z⟩))
  ·have hc1s := hc1; try simp only [BL] at hc1s
   exact Ex <| Sq <| Rq <| O (Mv (V rfl)) <| O (As (V rfl)) <| Nq <| Rx <| R1 rfl (V rfl) rfl (by show iv (e) = iv (firstSt l hs); rw [hJ1.2, List.take_of_length_le (by omega)]; rfl)
end Go.Proofs.Ytmcdamcedemdiaa
namespace Go.Proofs.Ytmcdamcedemdiaa
open Go.RowKit Go.Eng
def keptL {α : Type} (p : α → Bool) (l : List α) (j : Nat) : List α := (l.take j).filter fun x => !p x
def delA {α : Type} (p : α → Bool) (l : List α) (j : Nat) : List α := keptL p l j ++ l.drop (keptL p l j).length
theorem kept_le {α : Type} (p : α → Bool) (l : List α) (j : Nat) : (keptL p l j).length ≤ min j l.length := by
  refine Nat.le_trans (List.length_filter_le _ _) ?_
  rw [List.length_take]; exact Nat.le_refl _
theorem delA_len {α : Type} (p : α → Bool) (l : List α) (j : Nat) : (delA p l j).length = l.length := by
  have := kept_le p l j
  simp only [delA, List.length_append, List.length_drop]; omega
theorem delA_at {α : Type} {p : α → Bool} (d : α) {l : List α} {j : Nat} (h : j < l.length) : (delA p l j).getD j d = l.getD j d := by
  have := kept_le p l j
  simp only [delA, List.getD_eq_getElem?_getD]
  rw [List.getElem?_append_right (by omega), List.getElem?_drop]
  congr 2; omega
theorem kept_no {α : Type} {p : α → Bool} (d : α) {l : List α} {j : Nat} (h : j < l.length) (hp : p (l.getD j d) = false) : keptL p l (j + 1) = keptL p l j ++ [l.getD j d] := by
  rw [keptL, keptL, take_s d h, List.filter_append]; simp only [List.filter_cons, List.filter_nil, hp]; simp
theorem kept_yes {α : Type} {p : α → Bool} (d : α) {l : List α} {j : Nat} (h : j < l.length) (hp : p (l.getD j d) = true) : keptL p l (j + 1) = keptL p l j := by
  rw [keptL, keptL, take_s d h, List.filter_append]; simp only [List.filter_cons, List.filter_nil, hp]; simp
theorem delA_no {α : Type} {p : α → Bool} (d : α) {l : List α} {j : Nat} (h : j < l.length) (hp : p (l.getD j d) = false) : (delA p l j).set (keptL p l j).length (l.getD j d) = delA p l (j + 1) := by
  have hk := kept_le p l j
  rw [delA, delA, kept_no d h hp, List.set_append_right _ _ (Nat.le_refl _), Nat.sub_self]
  have : l.drop (keptL p l j).length = l.getD (keptL p l j).length d :: l.drop ((keptL p l j).length + 1) := by
    rw [List.drop_eq_getElem_cons (by omega), getD_lt (by omega)]
  rw [this]
  simp
theorem delA_yes {α : Type} {p : α → Bool} (d : α) {l : List α} {j : Nat} (h : j < l.length) (hp : p (l.getD j d) = true) : delA p l j = delA p l (j + 1) := by
  rw [delA, delA, kept_yes d h hp]
theorem kept_0 {α : Type} {p : α → Bool} (d : α) {l : List α} {i : Nat} (hi : i < l.length) (hp : p (l.getD i d) = true) (hall : ∀ j, j < i → p (l.getD j d) = false) : keptL p l (i + 1) = l.take i := by
  rw [kept_yes d hi hp, keptL, List.filter_eq_self]
  intro x hx
  obtain ⟨j, hj, rfl⟩ := getD_of_mem d hx
  rw [List.length_take] at hj
  have : (l.take i).getD j d = l.getD j d := by simp only [List.getD_eq_getElem?_getD, List.getElem?_take, if_pos (show j < i by omega)]
  rw [this, hall j (by omega)]; rfl
theorem delA_0 {α : Type} {p : α → Bool} (d : α) {l : List α} {i : Nat} (hi : i < l.length) (hp : p (l.getD i d) = true) (hall : ∀ j, j < i → p (l.getD j d) = false) : l = delA p l (i + 1) := by
  rw [delA, kept_0 d hi hp hall, List.length_take, Nat.min_eq_left (Nat.le_of_lt hi), List.take_append_drop]
theorem kept_all {α : Type} {p : α → Bool} {l : List α} {j : Nat} (h : l.length ≤ j) : keptL p l j = l.filter fun x => !p x := by rw [keptL, List.take_of_length_le h]
theorem del_none {α : Type} {p : α → Bool} {l : List α} (h : idxF p l = -1) (d : α) : l = l.filter fun x => !p x := by
  rcases idxF_cases p d l with ⟨_, h2⟩ | ⟨i, h2, _⟩
  · exact (List.filter_eq_self.2 fun x hx => by rw [h2 x hx]; rfl).symm
  · rw [h2] at h; omega
theorem del_end {α : Type} {p : α → Bool} {l : List α} {j : Nat} (h : l.length ≤ j) (z : List α) : (ovr (delA p l j) (keptL p l j).length z).take (keptL p l j).length = l.filter fun x => !p x := by
  rw [ovr, List.append_assoc, List.take_append_of_le_length (by rw [List.length_take, delA_len]; have := kept_le p l j; omega), List.take_take, Nat.min_self, delA, List.take_append_of_le_length (Nat.le_refl _), List.take_length, kept_all h]
def fillL {α : Type} (z o : α) (n m : Nat) : List α := List.replicate n z ++ List.replicate (m - n) o
theorem fillL_len {α : Type} (z o : α) {n m : Nat} (h : n ≤ m) : (fillL z o n m).length = m := by simp [fillL]; omega
theorem fillL_0 {α : Type} (z o : α) (m : Nat) : ovr (List.replicate m o) 0 (([z] : List α).take (List.replicate m o).length) = fillL z o (Nat.min 1 m) m := by
  cases m with
  | zero => rfl
  | succ m => simp [ovr, fillL, List.take, Nat.min_def, List.drop_replicate]
theorem fillL_s {α : Type} (z o : α) {n m : Nat} (h : n ≤ m) : ovr (fillL z o n m) n ((((fillL z o n m).drop 0).take n).take ((fillL z o n m).length - n)) = fillL z o (n + Nat.min n ((fillL z o n m).length - n)) m := by
  rw [fillL_len z o h]
  have h1 : (((fillL z o n m).drop 0).take n).take (m - n) = List.replicate (Nat.min n (m - n)) z := by
    have h0 : ((fillL z o n m).drop 0).take n = List.replicate n z := by rw [List.drop_zero, fillL, List.take_append_of_le_length (by simp), List.take_of_length_le (by simp)]
    rw [h0, List.take_replicate]
    exact congrArg (fun q => List.replicate q z) (Nat.min_comm _ _)
  rw [h1, ovr, List.length_replicate, fillL, List.take_append_of_le_length (by simp), List.take_of_length_le (by simp), List.drop_append]
  have h2 : Nat.min n (m - n) ≤ m - n := Nat.min_le_right _ _
  generalize Nat.min n (m - n) = q at *
  simp only [List.drop_replicate, List.length_replicate, fillL]
  have e1 : n - (n + q) = 0 := by omega
  have e2 : m - n - (n + q - n) = m - (n + q) := by omega
  rw [e1, e2, List.replicate_zero, List.nil_append, List.replicate_append_replicate]
theorem mul_small {y : Int} (h : 0 ≤ y ∧ y ≤ 24) : IntKind.i64.wrap y = y ∧ IntKind.u64.wrap y = y := by
  constructor
  · exact wrap_in (by omega) (by omega)
  · unfold IntKind.wrap
    simp [IntKind.signed, IntKind.bits]
    omega
end Go.Proofs.Ytmcdamcedemdiaa
namespace Go.Proofs.Ytmcdamcedemdiaa
open Go.RowKit Go.Eng
theorem idxf129_ct {f : FuncId} {caps : List SV} (p : Int → Bool) (hE : Enters Try.prog f) (hro : allRO caps = true) (hC : ∀ x, Ct Try.prog f ([iv x] ++ caps) (bv (p x))) (l : List Int) : Ct Try.prog 129 [inRow l, fnA f caps] (iv (idxF p l)) := by
 refine CtO 19 Try.func129 rfl rfl rfl fun E => Rl (V (s := 0) rfl) fun hl0 => Sq <| Rq <| O (As K) <| Nq <| Sq <| Sq <| Rq <| O (Mv (V rfl)) <| O (Ln (V rfl) ts33) <| O (Mv K) <| Nq <| Bo <| Lo (fun (i : Nat) => ⟨[(0, inRow l), (1, fnA f caps), (7, iv ((l.length : Int))), (8, iv ((i : Int)))], []⟩) (fun (i : Nat) => i ≤ l.length ∧ ∀ j, j < i → p (l.getD j 0) = false) (fun (i : Nat) => l.length - i) 0 (by show 0 ≤ l.length ∧ ∀ j, j < 0 → p (l.getD j 0) = false; exact ⟨Nat.zero_le _, fun j hj => absurd hj (Nat.not_lt_zero _)⟩) (We (Vs rfl) Z) <| ?_
 ·rintro i hI1
  have hJ1 : i ≤ l.length ∧ ∀ j, j < i → p (l.getD j 0) = false := hI1
  have hi1 := hJ1.1
  have hall := hJ1.2
  refine Sq <| Rq <| O (Lt (V rfl) (V rfl)) <| Nq <| Sq <| Cd (V rfl) (fun hc1 => ?_) (fun hc1 => ?_)
  ·have hc1s := hc1; try simp only [BL] at hc1s
   refine Sk <| Sq <| Bo <| Sq <| Rq <| O (Mv (V rfl)) <| O (As (V rfl)) <| Nq <| Sq <| Rq <| O (Mv (V rfl)) <| O (Mv (V rfl)) <| O (Mv (V rfl)) <| O (IxN (i := i) (V rfl) (V rfl) ts33 te33 (by clear hall hJ1 hI1; omega)) <| O (Ld (V rfl) Ga3 (by decide)) <| CQv (args := [iv ((l.getD i 0))]) (caps := caps) (fnval_A (V rfl)) hro hE (by exact ⟨⟨(V rfl), rfl⟩, Z⟩) (hC (l.getD i 0)) <| Nq <| Cd (V rfl) (fun hc2 => ?_) (fun hc2 => ?_)
   ·have hc2s := hc2; try simp only [BL] at hc2s
    exact Sq <| Rq <| O (Mv (V rfl)) <| O (As (V rfl)) <| Nq <| Rx <| R1 rfl (V rfl) rfl (by show iv ((i : Int)) = iv (idxF p l); rw [idxF_hit 0 (by clear hall hJ1 hI1; omega) hall hc2])
   ·have hc2s := hc2; try simp only [BL] at hc2s
    exact Sk <| Rq <| O (Ad (V rfl) K (by clear hall hJ1 hI1; omega)) <| O (Mv (V rfl)) <| Nq <| Nx (i + 1) (by show (i + 1) ≤ l.length ∧ ∀ j, j < (i + 1) → p (l.getD j 0) = false; exact ⟨by clear hall hJ1 hI1; omega, idxF_s hall hc2⟩) (by show l.length - (i + 1) < l.length - i; clear hall hJ1 hI1; omega) (We (Vs rfl) Z)
  ·have hc1s := hc1; try simp only [BL] at hc1s
   exact Ex <| Sq <| Rq <| O (As K) <| Nq <| Rx <| R1 rfl (V rfl) rfl (by show iv ((-1)) = iv (idxF p l); rw [idxF_none 0 hall (by clear hall hJ1 hI1; omega)])
theorem del60_ct {f : FuncId} {caps : List SV} (p : Int → Bool) (hE : Enters Try.prog f) (hro : allRO caps = true) (hC : ∀ x, Ct Try.prog f ([iv x] ++ caps) (bv (p x))) (l : List Int) (hl : l.length ≤ 1000000000) : CtM Try.prog 60 [SV.own 1000, fnA f caps] [(1000, ownOf inCell 1 0 l 3)] (SV.own 0) [(0, ownOf inCell 1 0 (l.filter fun x => !p x) 3)] := by
 refine CmO 42 Try.func60 rfl rfl rfl fun E => Sq <| Rq <| O (As (Vn (k := 1) (get := rowG inCell 0 []))) <| Nq <| Sq <| Rq <| O (Mv (V rfl)) <| O (Mv (V rfl)) <| CQb en129 (by exact ⟨(vb_own (V rfl) rfl), (vb_ro (V rfl) rfl), Z⟩) (idxf129_ct p hE hro hC l) <| O (As (V rfl)) <| Nq <| Sq <| Sq <| Rq <| O (Mv (V rfl)) <| O (Ql (V rfl) K) <| Nq <| Cd (V rfl) (fun hc1 => ?_) (fun hc1 => ?_)
 ·have hc1s := hc1; try simp only [BL] at hc1s
  exact Sq <| Rq <| O (Mv (V rfl)) <| O (As (V rfl)) <| Nq <| c_mv 1000 0 rfl rfl <| c_ownE 0 (l.filter fun x => !p x) rfl (by exact del_none hc1s 0) <| Rx <| M1 rfl (V rfl) (by exact ⟨⟨_, rfl, rfl⟩, Z⟩) (by show SV.own 0 = SV.own 0; rfl)
 ·have hc1s := hc1; try simp only [BL] at hc1s
  obtain ⟨i0, he0, hi0, hp0, hall0⟩ := (idxF_cases p 0 l).resolve_left fun h => hc1s h.1
  refine Sk <| Sq <| Sq <| Rq <| O (Mv (V rfl)) <| O (Ad (V rfl) K (by first | omega | (rw [he0]; omega))) <| O (As (V rfl)) <| Nq <| Bo <| c_ownE 1000 (delA p l ((i0 + 1))) rfl (by exact delA_0 0 hi0 hp0 hall0) <| Lo (fun (j : Nat) => ⟨[(0, SV.own 1000), (1, fnA f caps), (5, iv (((keptL p l j).length : Int))), (6, iv ((j : Int)))], [(1000, ownOf inCell 1 0 (delA p l j) 3)]⟩) (fun (j : Nat) => j ≤ l.length) (fun (j : Nat) => l.length - j) (i0 + 1) (by show (i0 + 1) ≤ l.length; show i0 + 1 ≤ l.length; omega) (We (sl := [(0, SV.own 1000), (1, fnA f caps), (5, iv (((keptL p l ((i0 + 1))).length : Int))), (6, iv (((i0 + 1) : Int)))]) (by exact ⟨V rfl, V rfl, val_eq (V rfl) (congrArg iv (he0.trans (by rw [kept_0 0 hi0 hp0 hall0, List.length_take, Nat.min_eq_left (Nat.le_of_lt hi0)]))), val_eq (V rfl) (congrArg iv (by rw [he0])), Z⟩) (AOs rfl)) <| ?_
  ·rintro j hI1
   have hJ1 : j ≤ l.length := hI1
   have hjl := hJ1
   have hdl := delA_len p l j
   have hkl := kept_le p l j
   refine Sq <| Sq <| Rq <| O (Mv (V rfl)) <| O (Mv (V rfl)) <| O (LnO (V rfl) rfl ts33) <| O (Lt (V rfl) (V rfl)) <| Nq <| Cd (V rfl) (fun hc2 => ?_) (fun hc2 => ?_)
   ·have hc2s := hc2; try simp only [BL] at hc2s
    have hjj : j < l.length := by omega
    refine Sk <| Sq <| Bo <| Sq <| Rq <| O (Mv (V rfl)) <| O (Mv (V rfl)) <| O (IOn (i := j) (V rfl) rfl (V rfl) ts33 te33 (by omega)) <| O (LdO (V rfl) rfl Ga3 (by decide)) <| O (As (V rfl)) <| Nq <| Sq <| Rq <| O (Mv (V rfl)) <| O (Mv (V rfl)) <| CQv (args := [iv (((delA p l j).getD j 0))]) (caps := caps) (fnval_A (V rfl)) hro hE (by exact ⟨⟨(V rfl), rfl⟩, Z⟩) (hC (((delA p l j).getD j 0))) <| O (Qo (V rfl)) <| Nq <| Cd (V rfl) (fun hc3 => ?_) (fun hc3 => ?_)
    ·have hc3s := hc3; try simp only [BL] at hc3s
     have hpj : p (l.getD j 0) = false := by rw [delA_at 0 hjj] at hc3; simpa using hc3
     refine Sq <| Rt <| U (Mv (V rfl)) <| U (Mv (V rfl)) <| U (Mv (V rfl)) <| U (IOn (i := (keptL p l j).length) (V rfl) rfl (V rfl) ts33 te33 (by omega)) <| ?_
     have hidx0 : (keptL p l j).length < (delA p l j).length := by omega
     exact StO (rowG inCell 0 ((delA p l j).set ((keptL p l j).length) (((delA p l j).getD j 0)))) (V rfl) rfl (V rfl) rfl rfl Sz3 (by decide) (show (delA p l j).length = ((delA p l j).set ((keptL p l j).length) (((delA p l j).getD j 0))).length from List.length_set.symm) (set_at hidx0 rfl) (set_typed hidx0 fun t ht hne => match t, ht, hne with | 0, _, hne => absurd rfl hne) <| Nt <| Rq <| O (Mv (V rfl)) <| O (Ad (V rfl) K (by first | omega | (rw [he0]; omega))) <| O (As (V rfl)) <| Nq <| Rq <| O (Mv (V rfl)) <| O (Ad (V rfl) K (by first | omega | (rw [he0]; omega))) <| O (As (V rfl)) <| Nq <| k_ownE 1000 (delA p l ((j + 1))) rfl (by rw [delA_at 0 hjj]; exact delA_no 0 hjj hpj) <| Nx (j + 1) (by show (j + 1) ≤ l.length; omega) (by show l.length - (j + 1) < l.length - j; omega) (We (sl := [(0, SV.own 1000), (1, fnA f caps), (5, iv (((keptL p l ((j + 1))).length : Int))), (6, iv (((j + 1) : Int)))]) (by exact ⟨V rfl, V rfl, val_eq (V rfl) (congrArg iv (by rw [kept_no 0 hjj hpj, List.length_append]; rfl)), V rfl, Z⟩) (AOs rfl))
    ·have hc3s := hc3; try simp only [BL] at hc3s
     have hpj : p (l.getD j 0) = true := by rw [delA_at 0 hjj] at hc3; simpa using hc3
     exact Sk <| Rq <| O (Mv (V rfl)) <| O (Ad (V rfl) K (by first | omega | (rw [he0]; omega))) <| O (As (V rfl)) <| Nq <| k_ownE 1000 (delA p l ((j + 1))) rfl (by exact delA_yes 0 hjj hpj) <| Nx (j + 1) (by show (j + 1) ≤ l.length; omega) (by show l.length - (j + 1) < l.length - j; omega) (We (sl := [(0, SV.own 1000), (1, fnA f caps), (5, iv (((keptL p l ((j + 1))).length : Int))), (6, iv (((j + 1) : Int)))]) (by exact ⟨V rfl, V rfl, val_eq (V rfl) (congrArg iv (by rw [kept_yes 0 hjj hpj])), V rfl, Z⟩) (AOs rfl))
   ·have hc2s := hc2; try simp only [BL] at hc2s
    exact Ex <| Sq <| Rt <| U (Mv (V rfl)) <| U (Mv (V rfl)) <| U (q_slOL ts33 te33 (V rfl) rfl (V rfl) (by omega) (by first | omega | (rw [ovr_len (by rw [List.length_replicate]; omega)]; omega))) <| t_clrT 0 Un33 zero3 (V rfl) rfl (by decide) (by omega) ⟨Z, impO_rfl⟩ <| Nt <| Sq <| Rq <| O (Mv (V rfl)) <| O (Mv (V rfl)) <| O (q_slOH ts33 te33 (V rfl) rfl (V rfl) (by omega) (by first | omega | (rw [ovr_len (by rw [List.length_replicate]; omega)]; omega))) <| O (As (V rfl)) <| Nq <| Tc (turn_cutT 4 1000 1 ((keptL p l j).length) rfl rfl (by rw [ovr_len (by rw [List.length_replicate]; omega)]; omega) rfl (by decide)) <| c_mv 1 0 rfl rfl <| c_ownE 0 (l.filter fun x => !p x) rfl (by exact del_end (by omega) _) <| Rx <| M1 rfl (V rfl) (by exact ⟨⟨_, rfl, rfl⟩, Z⟩) (by show SV.own 0 = SV.own 0; rfl)
theorem mul64_ct (n : Nat) (hn : n ≤ 24) : Ct Try.prog 149 [SV.v (Value.int .u64 (1)), SV.v (Value.int .u64 ((n : Int)))] (sv2 (SV.v (Value.int .u64 0)) (SV.v (Value.int .u64 (n : Int)))) := by
 refine CtO 51 Try.func149 rfl rfl rfl fun E => Sq <| Rq <| O (As K) <| O (As K) <| Nq <| Sq <| Rq <| O (Mv (V rfl)) <| O (q_and64 (V rfl) K) <| O (As (V rfl)) <| Nq <| Sq <| Rq <| O (Mv (V rfl)) <| O (q_shr (V rfl) K (by decide)) <| O (As (V rfl)) <| Nq <| Sq <| Rq <| O (Mv (V rfl)) <| O (q_and64 (V rfl) K) <| O (As (V rfl)) <| Nq <| Sq <| Rq <| O (Mv (V rfl)) <| O (q_shr (V rfl) K (by decide)) <| O (As (V rfl)) <| Nq <| Sq <| Rq <| O (Mv (V rfl)) <| O (Mv (V rfl)) <| O (q_mulW (V rfl) (V rfl)) <| O (As (V rfl)) <| Nq <| Sq <| Rq <| O (Mv (V rfl)) <| ?_
 refine O (Mv (V rfl)) <| O (q_mulW (V rfl) (V rfl)) <| O (Mv (V rfl)) <| O (q_shr (V rfl) K (by decide)) <| O (q_addW (V rfl) (V rfl)) <| O (As (V rfl)) <| Nq <| Sq <| Rq <| O (Mv (V rfl)) <| O (q_and64 (V rfl) K) <| O (As (V rfl)) <| Nq <| Sq <| Rq <| O (Mv (V rfl)) <| O (q_shr (V rfl) K (by decide)) <| O (As (V rfl)) <| Nq <| Sq <| Rq <| O (Mv (V rfl)) <| O (Mv (V rfl)) <| O (Mv (V rfl)) <| O (q_mulW (V rfl) (V rfl)) <| O (q_addW (V rfl) (V rfl)) <| O (As (V rfl)) <| Nq <| Sq <| Rq <| O (Mv (V rfl)) <| O (Mv (V rfl)) <| O (q_mulW (V rfl) (V rfl)) <| O (Mv (V rfl)) <| O (q_addW (V rfl) (V rfl)) <| O (Mv (V rfl)) <| O (q_shr (V rfl) K (by decide)) <| O (q_addW (V rfl) (V rfl)) <| O (As (V rfl)) <| Nq <| ?_
 exact Sq <| Rq <| O (Mv (V rfl)) <| O (Mv (V rfl)) <| O (q_mulW (V rfl) (V rfl)) <| O (As (V rfl)) <| Nq <| Rx <| R2 rfl (V rfl) (V rfl) rfl rfl (by show sv2 (SV.v (Value.int .u64 (IntKind.u64.wrap ((IntKind.u64.wrap ((IntKind.u64.wrap ((1 / 2 ^ (Int.toNat 32)) * (((n : Int)) / 2 ^ (Int.toNat 32)))) + ((IntKind.u64.wrap ((IntKind.u64.wrap ((1 / 2 ^ (Int.toNat 32)) * (bits .and .u64 ((n : Int)) 4294967295))) + ((IntKind.u64.wrap ((bits .and .u64 1 4294967295) * (bits .and .u64 ((n : Int)) 4294967295))) / 2 ^ (Int.toNat 32)))) / 2 ^ (Int.toNat 32)))) + ((IntKind.u64.wrap ((bits .and .u64 (IntKind.u64.wrap ((IntKind.u64.wrap ((1 / 2 ^ (Int.toNat 32)) * (bits .and .u64 ((n : Int)) 4294967295))) + ((IntKind.u64.wrap ((bits .and .u64 1 4294967295) * (bits .and .u64 ((n : Int)) 4294967295))) / 2 ^ (Int.toNat 32)))) 4294967295) + (IntKind.u64.wrap ((bits .and .u64 1 4294967295) * (((n : Int)) / 2 ^ (Int.toNat 32)))))) / 2 ^ (Int.toNat 32)))))) (SV.v (Value.int .u64 (IntKind.u64.wrap (1 * ((n : Int)))))) = sv2 (SV.v (Value.int .u64 0)) (SV.v (Value.int .u64 (n : Int))); rcases (show n = 0 ∨ n = 1 ∨ n = 2 ∨ n = 3 ∨ n = 4 ∨ n = 5 ∨ n = 6 ∨ n = 7 ∨ n = 8 ∨ n = 9 ∨ n = 10 ∨ n = 11 ∨ n = 12 ∨ n = 13 ∨ n = 14 ∨ n = 15 ∨ n = 16 ∨ n = 17 ∨ n = 18 ∨ n = 19 ∨ n = 20 ∨ n = 21 ∨ n = 22 ∨ n = 23 ∨ n = 24 by omega) with rfl | rfl | rfl | rfl | rfl | rfl | rfl | rfl | rfl | rfl | rfl | rfl | rfl | rfl | rfl | rfl | rfl | rfl | rfl | rfl | rfl | rfl | rfl | rfl | rfl <;> rfl)
theorem mul_ct (n : Nat) (hn : n ≤ 24) : Ct Try.prog 124 [SV.v (Value.int .u64 (1)), SV.v (Value.int .u64 ((n : Int)))] (sv2 (SV.v (Value.int .u64 0)) (SV.v (Value.int .u64 (n : Int)))) := by
 refine CtO 30 Try.func124 rfl rfl rfl fun E => Sq <| Rq <| O (As K) <| O (As K) <| Nq <| Sq <| Cd K (fun hc1 => ?_) (fun hc1 => ?_)
 ·cases hc1
 ·have hc1s := hc1; try simp only [BL] at hc1s
  exact Sk <| Sq <| Rt <| U (Mv (V rfl)) <| U (Mv (V rfl)) <| CT en149 (by exact ⟨⟨(V rfl), rfl⟩, ⟨(V rfl), rfl⟩, Z⟩) (mul64_ct n hn) <| U (Mv (V rfl)) <| U (Xt (V rfl) (by decide)) <| U (Xt (V rfl) (by decide)) <| U (As (V rfl)) <| U (As (V rfl)) <| Nt <| Sq <| Rq <| O (Mv (V rfl)) <| O (Mv (V rfl)) <| O (As (V rfl)) <| O (As (V rfl)) <| Nq <| Rx <| R2 rfl (V rfl) (V rfl) rfl rfl (by show sv2 (SV.v (Value.int .u64 (0))) (SV.v (Value.int .u64 ((n : Int)))) = sv2 (SV.v (Value.int .u64 0)) (SV.v (Value.int .u64 (n : Int))); rfl)
theorem repeat_ct (z : Nd) (n : Nat) (hn : n ≤ 24) : Ct Try.prog 55 [ndRow ([z]), iv ((n : Int))] (ndRow (List.replicate n z)) := by
 refine CtO 48 Try.func55 rfl rfl rfl fun E => Rl (V (s := 0) rfl) fun hl0 => Sq <| Rq <| O (As (Vn (k := 8) (get := rowG ndCell default []))) <| Nq <| Sq <| Sq <| Rq <| O (Mv (V rfl)) <| O (Lt (V rfl) K) <| Nq <| Cd (V rfl) (fun hc1 => ?_) (fun hc1 => ?_)
 ·have hc1s := hc1; try simp only [BL] at hc1s
  exact absurd hc1s (by omega)
  --done
 ·have hc1s := hc1; try simp only [BL] at hc1s
  refine Sk <| Sq <| Rt <| U (Mv (V rfl)) <| U (Ln (V rfl) ts22) <| U (q_conv (V rfl) Un3 Un134 (by rfl)) <| U (Mv (V rfl)) <| U (q_conv (V rfl) Un3 Un134 (by exact (mul_small (by omega)).2)) <| CT en124 (by exact ⟨⟨(V rfl), rfl⟩, ⟨(V rfl), rfl⟩, Z⟩) (mul_ct n hn) <| U (Mv (V rfl)) <| U (Xt (V rfl) (by decide)) <| U (Xt (V rfl) (by decide)) <| U (As (V rfl)) <| U (As (V rfl)) <| Nt <| Sq <| Sq <| Rq <| O (Mv (V rfl)) <| O (Gt (V rfl) K) <| O (Mv (V rfl)) <| Og (Gn rfl rfl) (fun hg => Mv (V rfl)) <| Og (Gn rfl rfl) (fun hg => Gt (Vg (V rfl) hg) K) <| O (Qr (V rfl) (fun h => Vg (V rfl) (notT h))) <| Nq <| Cd (V rfl) (fun hc2 => ?_) (fun hc2 => ?_)
  ·have hc2s := hc2; try simp only [BL] at hc2s
   exact absurd hc2s (by omega)
   --done
  ·have hc2s := hc2; try simp only [BL] at hc2s
   refine Sk <| Sq <| Rt <| U (Mv (V rfl)) <| U (q_conv (V rfl) Un134 Un3 (by exact (mul_small (by omega)).1)) <| Mk2 (cell := ndCell) (dd := default) 1 ⟨false, 0, 0, 0, 0, [], 0, false⟩ eo22 zero61 (V rfl) (V rfl) (by omega) ⟨⟨⟨⟨⟨⟨⟨⟨Z, impO_rfl⟩, impO_rfl⟩, impO_rfl⟩, impO_rfl⟩, impO_rfl⟩, impO_nil⟩, impO_rfl⟩, impO_rfl⟩ rfl <| U (As (V rfl)) <| Nt <| Sq <| Rt <| U (Mv (V rfl)) <| U (Mv (V rfl)) <| t_cpRT Un22 Sz61 (val_sub (V rfl) rfl) rfl (V rfl) (by decide) (by omega) <| U (As (V rfl)) <| Nt <| Sq <| Bo <| c_ownE 1 (fillL z ⟨false, 0, 0, 0, 0, [], 0, false⟩ ((Nat.min 1 n)) n) rfl (by exact fillL_0 z _ n) <| Lo (fun (k : Nat) => ⟨[(7, SV.own 1), (8, iv ((k : Int)))], [(1, ownOf ndCell 8 default (fillL z ⟨false, 0, 0, 0, 0, [], 0, false⟩ k n) 61)]⟩) (fun (k : Nat) => k ≤ n ∧ (n = 0 ∨ 0 < k)) (fun (k : Nat) => n - k) (Nat.min 1 n) (by show (Nat.min 1 n) ≤ n ∧ (n = 0 ∨ 0 < (Nat.min 1 n)); have h1 := Nat.min_le_right 1 n; have h2 := Nat.min_le_left 1 n; constructor; exact h1; cases n; exact .inl rfl; exact .inr (by simp [Nat.min_def])) (We (sl := [(7, SV.own 1), (8, iv (((Nat.min 1 n) : Int)))]) (by exact ⟨V rfl, val_eq (V rfl) (congrArg iv (by rw [List.length_replicate]; rfl)), Z⟩) (AOs rfl)) <| ?_
   ·rintro k hI1
    have hJ1 : k ≤ n ∧ (n = 0 ∨ 0 < k) := hI1
    have hkn := hJ1.1
    have hk0 := hJ1.2
    have hfl := fillL_len z ⟨false, 0, 0, 0, 0, [], 0, false⟩ hkn
    have hm1 : Nat.min k ((fillL z ⟨false, 0, 0, 0, 0, [], 0, false⟩ k n).length - k) = min k ((fillL z ⟨false, 0, 0, 0, 0, [], 0, false⟩ k n).length - k) := rfl
    refine Sq <| Sq <| Rq <| O (Mv (V rfl)) <| O (Mv (V rfl)) <| O (LnO (V rfl) rfl ts22) <| O (Lt (V rfl) (V rfl)) <| Nq <| Cd (V rfl) (fun hc3 => ?_) (fun hc3 => ?_)
    ·have hc3s := hc3; try simp only [BL] at hc3s
     refine Sk <| Bo <| c_rd (fun e => ⟨[(38, cj (e 0) (iv ((k : Int)))), (39, cj (e 1) (SV.own 1)), (40, cj (e 2) (iv ((k : Int)))), (41, cj (e 3) (SV.sub 1 8 k ((fillL z ⟨false, 0, 0, 0, 0, [], 0, false⟩ k n).length - k))), (42, cj (e 4) (SV.own 1)), (43, cj (e 5) (iv ((k : Int)))), (44, cj (e 6) (SV.sub 1 8 0 k)), (45, cj (e 7) (iv ((Nat.min k ((fillL z ⟨false, 0, 0, 0, 0, [], 0, false⟩ k n).length - k) : Int)))), (46, cj (e 8) (iv (((k : Int)) + ((Nat.min k ((fillL z ⟨false, 0, 0, 0, 0, [], 0, false⟩ k n).length - k) : Int))))), (8, cv (e 9) (iv (((k : Int)) + ((Nat.min k ((fillL z ⟨false, 0, 0, 0, 0, [], 0, false⟩ k n).length - k) : Int)))) (iv ((k : Int)))), (7, SV.own 1)], (cb (e 7) [(1, ownOf ndCell 8 default (ovr (fillL z ⟨false, 0, 0, 0, 0, [], 0, false⟩ k n) k ((((fillL z ⟨false, 0, 0, 0, 0, [], 0, false⟩ k n).drop 0).take k).take ((fillL z ⟨false, 0, 0, 0, 0, [], 0, false⟩ k n).length - k))) 61)] [(1, ownOf ndCell 8 default (fillL z ⟨false, 0, 0, 0, 0, [], 0, false⟩ k n) 61)])⟩) ⟨[(38, iv ((k : Int))), (39, SV.own 1), (40, iv ((k : Int))), (41, SV.sub 1 8 k ((fillL z ⟨false, 0, 0, 0, 0, [], 0, false⟩ k n).length - k)), (42, SV.own 1), (43, iv ((k : Int))), (44, SV.sub 1 8 0 k), (45, iv ((Nat.min k ((fillL z ⟨false, 0, 0, 0, 0, [], 0, false⟩ k n).length - k) : Int))), (46, iv (((k : Int)) + ((Nat.min k ((fillL z ⟨false, 0, 0, 0, 0, [], 0, false⟩ k n).length - k) : Int)))), (8, iv (((k : Int)) + ((Nat.min k ((fillL z ⟨false, 0, 0, 0, 0, [], 0, false⟩ k n).length - k) : Int)))), (7, SV.own 1)], [(1, ownOf ndCell 8 default (ovr (fillL z ⟨false, 0, 0, 0, 0, [], 0, false⟩ k n) k ((((fillL z ⟨false, 0, 0, 0, 0, [], 0, false⟩ k n).drop 0).take k).take ((fillL z ⟨false, 0, 0, 0, 0, [], 0, false⟩ k n).length - k))) 61)]⟩ (by kernel_rfl) (by kernel_rfl) ?_ ⟨?_, ?_, ?_, ?_, ?_, ?_, ?_, ?_, ?_, ?_, Z⟩ ?_ ?_
     ·show Weak _ _ ⟨[(38, SV.junk), (39, SV.junk), (40, SV.junk), (41, SV.junk), (42, SV.junk), (43, SV.junk), (44, SV.junk), (45, SV.junk), (46, SV.junk), (8, iv ((k : Int))), (7, SV.own 1)], [(1, ownOf ndCell 8 default (fillL z ⟨false, 0, 0, 0, 0, [], 0, false⟩ k n) 61)]⟩
      refine We ?_ ?_
      ·exact ⟨Vj, Vj, Vj, Vj, Vj, Vj, Vj, Vj, Vj, V rfl, V rfl, Z⟩
      ·exact ⟨⟨_, rfl, rfl⟩, Z⟩
     ·intro e hdn he hdp
      have h9 : e 9 = false := fls he fun q => by obtain ⟨r8, -, -, -, -, -, -, -, -, -, -, -⟩ := (show e 8 = true ∧ e 7 = true ∧ e 0 = true ∧ e 1 = true ∧ e 2 = true ∧ e 3 = true ∧ e 4 = true ∧ e 5 = true ∧ e 6 = true ∧ e 7 = true ∧ e 8 = true ∧ True from hdn 9 q); obtain ⟨r0, -, -⟩ := (show e 0 = true ∧ e 7 = true ∧ True from hdn 8 r8); exact r0
      simp only [setE, he, h9, cj_t, cj_f, cjn_t, cjn_f, cb_t, cb_f, cv_t, cv_f]
      exact U (Mv (V rfl)) <| Nt <| weakS ⟨V rfl, V rfl, V rfl, V rfl, V rfl, V rfl, V rfl, V rfl, V rfl, V rfl, V rfl, Z⟩
     ·intro e hdn he hdp
      have h7 : e 7 = false := fls he fun q => by obtain ⟨r3, -, -⟩ := (show e 3 = true ∧ e 6 = true ∧ True from hdn 7 q); obtain ⟨r1, -, -⟩ := (show e 1 = true ∧ e 2 = true ∧ True from hdn 3 r3); exact r1
      simp only [setE, he, h7, cj_t, cj_f, cjn_t, cjn_f, cb_t, cb_f, cv_t, cv_f]
      refine U (Mv (V rfl)) <| Nt <| We ?_ ?_
      ·exact ⟨V rfl, V rfl, V rfl, V rfl, V rfl, V rfl, V rfl, Vj, V rfl, V rfl, V rfl, Z⟩
      ·exact ⟨⟨_, rfl, rfl⟩, Z⟩
     ·intro e hdn he hdp
      have h7 : e 7 = false := fls he fun q => by obtain ⟨r3, -, -⟩ := (show e 3 = true ∧ e 6 = true ∧ True from hdn 7 q); obtain ⟨-, r2, -⟩ := (show e 1 = true ∧ e 2 = true ∧ True from hdn 3 r3); exact r2
      have h9 : e 9 = false := fls he fun q => by obtain ⟨r8, -, -, -, -, -, -, -, -, -, -, -⟩ := (show e 8 = true ∧ e 7 = true ∧ e 0 = true ∧ e 1 = true ∧ e 2 = true ∧ e 3 = true ∧ e 4 = true ∧ e 5 = true ∧ e 6 = true ∧ e 7 = true ∧ e 8 = true ∧ True from hdn 9 q); obtain ⟨-, r7, -⟩ := (show e 0 = true ∧ e 7 = true ∧ True from hdn 8 r8); obtain ⟨r3, -, -⟩ := (show e 3 = true ∧ e 6 = true ∧ True from hdn 7 r7); obtain ⟨-, r2, -⟩ := (show e 1 = true ∧ e 2 = true ∧ True from hdn 3 r3); exact r2
      simp only [setE, he, h7, h9, cj_t, cj_f, cjn_t, cjn_f, cb_t, cb_f, cv_t, cv_f]
      refine U (Mv (V rfl)) <| Nt <| We ?_ ?_
      ·exact ⟨V rfl, V rfl, V rfl, V rfl, V rfl, V rfl, V rfl, Vj, V rfl, V rfl, V rfl, Z⟩
      ·exact ⟨⟨_, rfl, rfl⟩, Z⟩
     ·intro e hdn he hdp
      obtain ⟨h1, h2, -⟩ := (show e 1 = true ∧ e 2 = true ∧ True from hdp)
      have h7 : e 7 = false := fls he fun q => by obtain ⟨r3, -, -⟩ := (show e 3 = true ∧ e 6 = true ∧ True from hdn 7 q); exact r3
      simp only [setE, h1, h2, he, h7, cj_t, cj_f, cjn_t, cjn_f, cb_t, cb_f, cv_t, cv_f]
      refine U (q_slOL ts22 te22 (V rfl) rfl (V rfl) (by omega) (by omega)) <| Nt <| We ?_ ?_
      ·exact ⟨V rfl, V rfl, V rfl, V rfl, V rfl, V rfl, V rfl, Vj, V rfl, V rfl, V rfl, Z⟩
      ·exact ⟨⟨_, rfl, rfl⟩, Z⟩
     ·intro e hdn he hdp
      have h7 : e 7 = false := fls he fun q => by obtain ⟨-, r6, -⟩ := (show e 3 = true ∧ e 6 = true ∧ True from hdn 7 q); obtain ⟨r4, -, -⟩ := (show e 4 = true ∧ e 5 = true ∧ True from hdn 6 r6); exact r4
      simp only [setE, he, h7, cj_t, cj_f, cjn_t, cjn_f, cb_t, cb_f, cv_t, cv_f]
      refine U (Mv (V rfl)) <| Nt <| We ?_ ?_
      ·exact ⟨V rfl, V rfl, V rfl, V rfl, V rfl, V rfl, V rfl, Vj, V rfl, V rfl, V rfl, Z⟩
      ·exact ⟨⟨_, rfl, rfl⟩, Z⟩
     ·intro e hdn he hdp
      have h7 : e 7 = false := fls he fun q => by obtain ⟨-, r6, -⟩ := (show e 3 = true ∧ e 6 = true ∧ True from hdn 7 q); obtain ⟨-, r5, -⟩ := (show e 4 = true ∧ e 5 = true ∧ True from hdn 6 r6); exact r5
      have h9 : e 9 = false := fls he fun q => by obtain ⟨r8, -, -, -, -, -, -, -, -, -, -, -⟩ := (show e 8 = true ∧ e 7 = true ∧ e 0 = true ∧ e 1 = true ∧ e 2 = true ∧ e 3 = true ∧ e 4 = true ∧ e 5 = true ∧ e 6 = true ∧ e 7 = true ∧ e 8 = true ∧ True from hdn 9 q); obtain ⟨-, r7, -⟩ := (show e 0 = true ∧ e 7 = true ∧ True from hdn 8 r8); obtain ⟨-, r6, -⟩ := (show e 3 = true ∧ e 6 = true ∧ True from hdn 7 r7); obtain ⟨-, r5, -⟩ := (show e 4 = true ∧ e 5 = true ∧ True from hdn 6 r6); exact r5
      simp only [setE, he, h7, h9, cj_t, cj_f, cjn_t, cjn_f, cb_t, cb_f, cv_t, cv_f]
      refine U (Mv (V rfl)) <| Nt <| We ?_ ?_
      ·exact ⟨V rfl, V rfl, V rfl, V rfl, V rfl, V rfl, V rfl, Vj, V rfl, V rfl, V rfl, Z⟩
      ·exact ⟨⟨_, rfl, rfl⟩, Z⟩
     ·intro e hdn he hdp
      obtain ⟨h4, h5, -⟩ := (show e 4 = true ∧ e 5 = true ∧ True from hdp)
      have h7 : e 7 = false := fls he fun q => by obtain ⟨-, r6, -⟩ := (show e 3 = true ∧ e 6 = true ∧ True from hdn 7 q); exact r6
      simp only [setE, h4, h5, he, h7, cj_t, cj_f, cjn_t, cjn_f, cb_t, cb_f, cv_t, cv_f]
      refine U (q_slOH ts22 te22 (V rfl) rfl (V rfl) (by omega) (by omega)) <| Nt <| We ?_ ?_
      ·exact ⟨V rfl, V rfl, V rfl, V rfl, V rfl, V rfl, V rfl, Vj, V rfl, V rfl, V rfl, Z⟩
      ·exact ⟨⟨_, rfl, rfl⟩, Z⟩
     ·intro e hdn he hdp
      obtain ⟨h3, h6, -⟩ := (show e 3 = true ∧ e 6 = true ∧ True from hdp)
      obtain ⟨h4, h5, -⟩ := (show e 4 = true ∧ e 5 = true ∧ True from hdn 6 h6)
      obtain ⟨h1, h2, -⟩ := (show e 1 = true ∧ e 2 = true ∧ True from hdn 3 h3)
      simp only [setE, h1, h2, h3, h4, h5, h6, he, cj_t, cj_f, cjn_t, cjn_f, cb_t, cb_f, cv_t, cv_f]
      refine t_cpST Un22 Sz61 (V rfl) rfl (V rfl) (by decide) (by omega) (by omega) <| Nt <| We ?_ ?_
      ·exact ⟨V rfl, V rfl, V rfl, V rfl, V rfl, V rfl, V rfl, V rfl, V rfl, V rfl, V rfl, Z⟩
      ·exact ⟨⟨_, rfl, rfl⟩, Z⟩
     ·intro e hdn he hdp
      obtain ⟨h0, h7, -⟩ := (show e 0 = true ∧ e 7 = true ∧ True from hdp)
      obtain ⟨h3, h6, -⟩ := (show e 3 = true ∧ e 6 = true ∧ True from hdn 7 h7)
      obtain ⟨h4, h5, -⟩ := (show e 4 = true ∧ e 5 = true ∧ True from hdn 6 h6)
      obtain ⟨h1, h2, -⟩ := (show e 1 = true ∧ e 2 = true ∧ True from hdn 3 h3)
      simp only [setE, h0, h1, h2, h3, h4, h5, h6, h7, he, cj_t, cj_f, cjn_t, cjn_f, cb_t, cb_f, cv_t, cv_f]
      refine U (Ad (V rfl) (V rfl) (by rw [hm1]; omega)) <| Nt <| We ?_ ?_
      ·exact ⟨V rfl, V rfl, V rfl, V rfl, V rfl, V rfl, V rfl, V rfl, V rfl, V rfl, V rfl, Z⟩
      ·exact ⟨⟨_, rfl, rfl⟩, Z⟩
     ·intro e hdn he hdp
      obtain ⟨h8, h7, h0, h1, h2, h3, h4, h5, h6, -, -, -⟩ := (show e 8 = true ∧ e 7 = true ∧ e 0 = true ∧ e 1 = true ∧ e 2 = true ∧ e 3 = true ∧ e 4 = true ∧ e 5 = true ∧ e 6 = true ∧ e 7 = true ∧ e 8 = true ∧ True from hdp)
      simp only [setE, h0, h1, h2, h3, h4, h5, h6, h7, h8, he, cj_t, cj_f, cjn_t, cjn_f, cb_t, cb_f, cv_t, cv_f]
      refine U (As (V rfl)) <| Nt <| We ?_ ?_
      ·exact ⟨V rfl, V rfl, V rfl, V rfl, V rfl, V rfl, V rfl, V rfl, V rfl, V rfl, V rfl, Z⟩
      ·exact ⟨⟨_, rfl, rfl⟩, Z⟩
     ·intro e he
      have h0 := he 0 (by decide)
      have h1 := he 1 (by decide)
      have h2 := he 2 (by decide)
      have h3 := he 3 (by decide)
      have h4 := he 4 (by decide)
      have h5 := he 5 (by decide)
      have h6 := he 6 (by decide)
      have h7 := he 7 (by decide)
      have h8 := he 8 (by decide)
      have h9 := he 9 (by decide)
      show Weak _ ⟨[(38, cj (e 0) (iv ((k : Int)))), (39, cj (e 1) (SV.own 1)), (40, cj (e 2) (iv ((k : Int)))), (41, cj (e 3) (SV.sub 1 8 k ((fillL z ⟨false, 0, 0, 0, 0, [], 0, false⟩ k n).length - k))), (42, cj (e 4) (SV.own 1)), (43, cj (e 5) (iv ((k : Int)))), (44, cj (e 6) (SV.sub 1 8 0 k)), (45, cj (e 7) (iv ((Nat.min k ((fillL z ⟨false, 0, 0, 0, 0, [], 0, false⟩ k n).length - k) : Int)))), (46, cj (e 8) (iv (((k : Int)) + ((Nat.min k ((fillL z ⟨false, 0, 0, 0, 0, [], 0, false⟩ k n).length - k) : Int))))), (8, cv (e 9) (iv (((k : Int)) + ((Nat.min k ((fillL z ⟨false, 0, 0, 0, 0, [], 0, false⟩ k n).length - k) : Int)))) (iv ((k : Int)))), (7, SV.own 1)], (cb (e 7) [(1, ownOf ndCell 8 default (ovr (fillL z ⟨false, 0, 0, 0, 0, [], 0, false⟩ k n) k ((((fillL z ⟨false, 0, 0, 0, 0, [], 0, false⟩ k n).drop 0).take k).take ((fillL z ⟨false, 0, 0, 0, 0, [], 0, false⟩ k n).length - k))) 61)] [(1, ownOf ndCell 8 default (fillL z ⟨false, 0, 0, 0, 0, [], 0, false⟩ k n) 61)])⟩ _
      simp only [h0, h1, h2, h3, h4, h5, h6, h7, h8, h9]
      show Weak _ ⟨[(38, iv ((k : Int))), (39, SV.own 1), (40, iv ((k : Int))), (41, SV.sub 1 8 k ((fillL z ⟨false, 0, 0, 0, 0, [], 0, false⟩ k n).length - k)), (42, SV.own 1), (43, iv ((k : Int))), (44, SV.sub 1 8 0 k), (45, iv ((Nat.min k ((fillL z ⟨false, 0, 0, 0, 0, [], 0, false⟩ k n).length - k) : Int))), (46, iv (((k : Int)) + ((Nat.min k ((fillL z ⟨false, 0, 0, 0, 0, [], 0, false⟩ k n).length - k) : Int)))), (8, iv (((k : Int)) + ((Nat.min k ((fillL z ⟨false, 0, 0, 0, 0, [], 0, false⟩ k n).length - k) : Int)))), (7, SV.own 1)], [(1, ownOf ndCell 8 default (ovr (fillL z ⟨false, 0, 0, 0, 0, [], 0, false⟩ k n) k ((((fillL z ⟨false, 0, 0, 0, 0, [], 0, false⟩ k n).drop 0).take k).take ((fillL z ⟨false, 0, 0, 0, 0, [], 0, false⟩ k n).length - k))) 61)]⟩ _
      refine We ?_ ?_
      ·exact ⟨V rfl, V rfl, V rfl, V rfl, V rfl, V rfl, V rfl, V rfl, V rfl, V rfl, V rfl, Z⟩
      ·exact ⟨⟨_, rfl, rfl⟩, Z⟩
     exact k_ownE 1 (fillL z ⟨false, 0, 0, 0, 0, [], 0, false⟩ ((k + Nat.min k ((fillL z ⟨false, 0, 0, 0, 0, [], 0, false⟩ k n).length - k))) n) rfl (by exact fillL_s z _ hJ1.1) <| NxH (k + Nat.min k ((fillL z ⟨false, 0, 0, 0, 0, [], 0, false⟩ k n).length - k)) (fun _ _ h => h) (by show (k + Nat.min k ((fillL z ⟨false, 0, 0, 0, 0, [], 0, false⟩ k n).length - k)) ≤ n ∧ (n = 0 ∨ 0 < (k + Nat.min k ((fillL z ⟨false, 0, 0, 0, 0, [], 0, false⟩ k n).length - k))); rw [hm1]; omega) (by show n - (k + Nat.min k ((fillL z ⟨false, 0, 0, 0, 0, [], 0, false⟩ k n).length - k)) < n - k; rw [hm1]; omega) (We (Vs rfl) (AOs rfl))
    ·have hc3s := hc3; try simp only [BL] at hc3s
     exact Ex <| Sq <| Rq <| O (Mv (V rfl)) <| O (As (V rfl)) <| Nq <| FzC 1 rfl <| Rx <| R1 rfl (V rfl) rfl (by show ndRow (fillL z ⟨false, 0, 0, 0, 0, [], 0, false⟩ k n) = ndRow (List.replicate n z); have hkk : k = n := (by omega); rw [hkk, fillL, Nat.sub_self, List.replicate_zero, List.append_nil])
end Go.Proofs.Ytmcdamcedemdiaa
namespace Go.Proofs.Ytmcdamcedemdiaa
open Go.RowKit Go.Eng
def nd1 : Nd := ⟨false, 0, 0, 0, -1, [], -1, false⟩
def newSt (n : Int) : List Nd × Int := if n < 0 ∨ 24 < n then ([], 2) else (List.replicate n.toNat nd1, 0)
theorem new_1 {n : Int} (h : (decide (n < 0) || decide (24 < n)) = true) : newSt n = ([], 2) := if_pos (by simpa using h)
theorem new_2 {n : Int} (h : (decide (n < 0) || decide (24 < n)) = false) : newSt n = (List.replicate n.toNat nd1, 0) := if_neg (by rw [Bool.or_eq_false_iff, decide_eq_false_iff_not, decide_eq_false_iff_not] at h; omega)
theorem set_same {α : Type} {d : α} : ∀ {l : List α} {i : Nat} {y : α}, i < l.length → y = l.getD i d → l.set i y = l
  | _ :: _, 0, _, _, h => by rw [h]; rfl
  | x :: l, i + 1, y, hi, h => by rw [List.set_cons_succ, set_same (l := l) (i := i) (by simpa using hi) (h.trans (by rw [List.getD_cons_succ]))]
theorem set_kids {l : List Nd} {i : Nat} (h : i < l.length) : l.set i { (l.getD i default) with kids := (l.getD i default).kids } = l := set_same h rfl
theorem mk_1 {l : List Nd} {g : Int} (h : ¬ checkSt l = 0) : mkSt l g = ([], ⟨0, 0⟩, checkSt l) := if_pos h
theorem mk_2 {l : List Nd} {g : Int} (h : checkSt l = 0) (h2 : g < 0 ∨ 99 < g) : mkSt l g = ([], ⟨0, 0⟩, 2) := by unfold mkSt; rw [if_neg (not_not_intro h), if_pos h2]
theorem mk_3 {l : List Nd} {g : Int} (h : checkSt l = 0) (h2 : ¬ (g < 0 ∨ 99 < g)) (h3 : idxF roomB l < 0) : mkSt l g = ([], ⟨0, 0⟩, 1) := by unfold mkSt; rw [if_neg (not_not_intro h), if_neg h2, if_pos h3]
theorem mk_4 {l : List Nd} {g : Int} (h : checkSt l = 0) (h2 : ¬ (g < 0 ∨ 99 < g)) (h3 : ¬ idxF roomB l < 0) : mkSt l g = (mkAt l (idxF roomB l).toNat g, ⟨idxF roomB l, (l.getD (idxF roomB l).toNat default).uses + 1⟩, 0) := by unfold mkSt; rw [if_neg (not_not_intro h), if_neg h2, if_neg h3]
theorem getD_setS {α : Type} {l : List α} {i : Nat} {y d : α} (h : i < l.length) : (l.set i y).getD i d = y := by simp [List.getD_eq_getElem?_getD, h]
def mkTag (l : List Nd) (k : Nat) (tag : Int) : List Nd := l.set k { (l.getD k default) with used := true, tag := tag }
theorem mkTag_eq {l : List Nd} {k : Nat} {g : Int} (h : k < l.length) : (l.set k { (l.getD k default) with used := true }).set k { ((l.set k { (l.getD k default) with used := true }).getD k default) with tag := g } = mkTag l k g := by
  rw [getD_setS h, List.set_set, mkTag]
theorem mkTag_uses {l : List Nd} {k : Nat} {g : Int} (h : k < l.length) : ((mkTag l k g).getD k default).uses = (l.getD k default).uses := by rw [mkTag, getD_setS h]
theorem mkTag_len {l : List Nd} {k : Nat} {g : Int} : (mkTag l k g).length = l.length := List.length_set
theorem mkAt_eq {l : List Nd} {k : Nat} {g : Int} (h : k < l.length) : (mkTag l k g).set k { ((mkTag l k g).getD k default) with uses := ((mkTag l k g).getD k default).uses + 1 } = mkAt l k g := by
  rw [mkTag, getD_setS h, List.set_set, mkAt]
theorem mkAt_uses {l : List Nd} {k : Nat} {g : Int} (h : k < l.length) : ((mkAt l k g).getD k default).uses = (l.getD k default).uses + 1 := by rw [mkAt, getD_setS h]
theorem mkAt_len {l : List Nd} {k : Nat} {g : Int} : (mkAt l k g).length = l.length := List.length_set
theorem roomB_lt {n : Nd} (h : roomB n = true) : n.used = false ∧ n.uses < 1000000 := by
  simpa [roomB] using h
theorem uses_ok {l : List Nd} (h : checkSt l = 0) {i : Nat} (hi : i < l.length) : 0 ≤ (l.getD i default).uses ∧ (l.getD i default).uses ≤ 1000000 := (nodesErr_at (checkSt_nodes h) hi).uses
end Go.Proofs.Ytmcdamcedemdiaa
namespace Go.Proofs.Ytmcdamcedemdiaa
open Go.RowKit Go.Eng
theorem repI_ct (z : Nd) {n : Int} (hn : 0 ≤ n ∧ n ≤ 24) : Ct Try.prog 55 [ndRow ([z]), iv n] (ndRow (List.replicate n.toNat z)) := by
  have h := repeat_ct z n.toNat (by omega)
  rwa [show ((n.toNat : Nat) : Int) = n by omega] at h
theorem new_ct (n : Int) : Ct Try.prog 47 [iv (n)] (sv2 (SV.agg 1 (stG (newSt n).1)) (iv (newSt n).2)) := by
 refine CtO 16 Try.func47 rfl rfl rfl fun E => Sq <| Rt <| Al 1 zero24 rfl rfl <| U (As K) <| Nt <| Sq <| Sq <| Rq <| O (Mv (V rfl)) <| O (Lt (V rfl) K) <| O (Mv (V rfl)) <| Og (Gn rfl rfl) (fun hg => Mv (V rfl)) <| Og (Gn rfl rfl) (fun hg => Gt (Vg (V rfl) hg) K) <| O (Qr (V rfl) (fun h => Vg (V rfl) (notT h))) <| Nq <| Cd (V rfl) (fun hc1 => ?_) (fun hc1 => ?_)
 ·have hc1s := hc1; try simp only [BL] at hc1s
  exact Sq <| Rt <| U (Bu [] id (cmpG [SV.v (Value.slice none 0 0)]) zero24 build24 (by exact Z) (by decide) ⟨Z, rfl⟩) <| StA (V rfl) rfl (V rfl) Sz24 <| U (As K) <| Nt <| Rx <| RR2 rfl (rv_aggI (g' := stG ([])) (rv_cell (V rfl) rfl Ga24 Sz24) ⟨Z, In⟩) (rv_tmp (V rfl)) rfl rfl (by show sv2 (SV.agg 1 (stG ([]))) (iv (2)) = sv2 (SV.agg 1 (stG (newSt n).1)) (iv (newSt n).2); rw [new_1 hc1])
 ·have hc1s := hc1; try simp only [BL] at hc1s
  exact Sk <| Sq <| Rt <| U (Bu [(4, iv ((-1))), (6, iv ((-1)))] id (cmpG [bv (false), iv (0), iv (0), iv (0), iv ((-1)), SV.v (Value.slice none 0 0), iv ((-1)), bv (false)]) zero61 build61 (by exact ⟨⟨rfl, K, rfl⟩, ⟨rfl, K, rfl⟩, Z⟩) (by decide) ⟨⟨⟨⟨⟨⟨⟨⟨Z, rfl⟩, rfl⟩, rfl⟩, rfl⟩, rfl⟩, rfl⟩, rfl⟩, rfl⟩) <| Uw (w_rowI (get' := rowG ndCell default [⟨false, 0, 0, 0, (-1), [], (-1), false⟩]) (w_bs (n := 1) (zget := cmpG [bv (false), iv (0), iv (0), iv (0), iv (0), SV.v (Value.slice none 0 0), iv (0), bv (false)]) [(cmpG [bv (false), iv (0), iv (0), iv (0), iv ((-1)), SV.v (Value.slice none 0 0), iv ((-1)), bv (false)])] (fun zi zt => ([(cmpG [bv (false), iv (0), iv (0), iv (0), iv ((-1)), SV.v (Value.slice none 0 0), iv ((-1)), bv (false)])].getD zi fun _ => SV.junk) zt) Un22 Sz61 zero61 (by decide) rfl (by decide) ⟨⟨rfl, .inl (V rfl), rfl⟩, Z⟩ ⟨Z, ⟨⟨⟨⟨⟨⟨⟨⟨Z, rfl⟩, rfl⟩, rfl⟩, rfl⟩, rfl⟩, rfl⟩, rfl⟩, rfl⟩⟩) ⟨Z, ⟨⟨⟨⟨⟨⟨⟨⟨Z, impO_rfl⟩, impO_rfl⟩, impO_rfl⟩, impO_rfl⟩, impO_rfl⟩, impO_nil⟩, impO_rfl⟩, impO_rfl⟩⟩) <| U (Mv (V rfl)) <| CT en55 (by exact ⟨⟨(V rfl), rfl⟩, ⟨(V rfl), rfl⟩, Z⟩) (repI_ct (⟨false, 0, 0, 0, (-1), [], (-1), false⟩) (by omega)) <| U (Bu [(0, ndRow (List.replicate (Int.toNat n) (⟨false, 0, 0, 0, (-1), [], (-1), false⟩)))] id (stG (List.replicate (Int.toNat n) (⟨false, 0, 0, 0, (-1), [], (-1), false⟩))) zero24 build24 (by exact ⟨⟨rfl, (V rfl), rfl⟩, Z⟩) (by decide) ⟨Z, rfl⟩) <| StA (V rfl) rfl (V rfl) Sz24 <| U (As K) <| Nt <| Rx <| RR2 rfl (rv_cell (V rfl) rfl Ga24 Sz24) (rv_tmp (V rfl)) rfl rfl (by show sv2 (SV.agg 1 (stG (List.replicate (Int.toNat n) (⟨false, 0, 0, 0, (-1), [], (-1), false⟩)))) (iv (0)) = sv2 (SV.agg 1 (stG (newSt n).1)) (iv (newSt n).2); rw [new_2 hc1]; rfl)
theorem room_ct (n : Nd) : Ct Try.prog 114 [SV.agg 8 (ndCell n)] (bv (roomB n)) := by
 exact CtO 11 Try.func114 rfl rfl rfl fun E => row_lenA 5 (V (s := 0) rfl) rfl rfl fun hl0_5 => Sq <| Rt <| BxA 1 (V rfl) rfl rfl <| U (As K) <| Nt <| Sq <| Rq <| O (FlB _ _ (V rfl) Un61 rfl 0 Sz4) <| O (LdB (V rfl) rfl Ga4 (by decide)) <| O (Qo (V rfl)) <| O (Mv (V rfl)) <| Og (Gy rfl rfl) (fun hg => FlB _ _ (V rfl) Un61 rfl 0 Sz3) <| Og (Gy rfl rfl) (fun hg => LdB (Vg (V rfl) hg) rfl Ga3 (by decide)) <| Og (Gy rfl rfl) (fun hg => Lt (Vg (V rfl) hg) K) <| O (Qa (V rfl) (fun h => Vg (V rfl) h)) <| O (As (V rfl)) <| Nq <| Rx <| R1 rfl (V rfl) rfl (by show bv ((!n.used) && (decide (n.uses < 1000000))) = bv (roomB n); rfl)
theorem copy_ct (l : List Nd) (hl : l.length ≤ 24) (hk : ∀ i, i < l.length → (l.getD i default).kids.length ≤ 24) : CtM Try.prog 115 [SV.agg 1 (stG l)] [] (SV.agg 1 (cmpG [SV.own 0])) [(0, ownOf ndCell 8 default l 61)] := by
 refine CmO 27 Try.func115 rfl rfl rfl fun E => row_lenA 0 (V (s := 0) rfl) rfl rfl fun hl0_0 => Sq <| Rt <| BxA 1 (V rfl) rfl rfl <| Al 2 zero24 rfl rfl <| Nt <| Sq <| Rt <| U (FlB _ _ (V rfl) Un24 rfl 0 Sz22) <| U (LdB (V rfl) rfl Ga22 (by decide)) <| CM (cargs := [ndRow l]) [] [(0, 3)] en147 (by exact ⟨(V rfl), Z⟩) (cloneN_ct l (by omega)) (by exact Z) rfl rfl rfl rfl <| U (FlB _ _ (V rfl) Un24 rfl 0 Sz22) <| t_st1V (V rfl) rfl (V rfl) (one_own rfl) Sz22 (by decide) <| Nt <| Sq <| Sq <| Rq <| O (FlB _ _ (V rfl) Un24 rfl 0 Sz22) <| O (LdB (V rfl) rfl Ga22 (by decide)) <| O (LnO (V rfl) rfl ts22) <| O (Mv K) <| Nq <| Bo <| Lo (fun (i : Nat) => ⟨[(1, SV.bp 1 0), (2, SV.bp 2 0), (10, SV.own 3), (11, iv ((l.length : Int))), (12, iv ((i : Int)))], [(1, Own.box 1 (upd (stG l) 0 (SV.own 3)) 24), (2, Own.box 1 (cmpG [SV.v (Value.slice none 0 0)]) 24), (3, ownOf ndCell 8 default l 61)]⟩) (fun (i : Nat) => i ≤ l.length) (fun (i : Nat) => l.length - i) 0 (by show 0 ≤ l.length; exact Nat.zero_le _) (We (ow := [(1, Own.box 1 (upd (stG l) 0 (SV.own 3)) 24), (2, Own.box 1 (cmpG [SV.v (Value.slice none 0 0)]) 24), (3, ownOf ndCell 8 default l 61)]) (Vs rfl) (by exact ⟨⟨_, rfl, rfl, rfl, (An rfl)⟩, ⟨_, rfl, rfl, rfl, (An rfl)⟩, ⟨_, rfl, rfl⟩, Z⟩)) <| ?_
 ·rintro i hI1
  have hJ1 : i ≤ l.length := hI1
  refine Sq <| Rq <| O (Lt (V rfl) (V rfl)) <| Nq <| Sq <| Cd (V rfl) (fun hc1 => ?_) (fun hc1 => ?_)
  ·have hc1s := hc1; try simp only [BL] at hc1s
   have hki := hk i (by omega)
   refine Sk <| Sq <| Bo <| Sq <| Rt <| U (Mv (V rfl)) <| U (IOn (i := i) (V rfl) rfl (V rfl) ts22 te22 (by omega)) <| U (LOA (V rfl) rfl Ga61 Sz61 (by decide)) <| Al 4 zero61 rfl rfl <| U (As (V rfl)) <| StA (V rfl) rfl (V rfl) Sz61 <| Nt <| c_rd (fun e => ⟨[(17, cj (e 0) (SV.bp 1 0)), (18, cj (e 1) (SV.own 3)), (19, cj (e 2) (iv ((i : Int)))), (20, cj (e 3) (SV.bp 4 5)), (21, cj (e 4) (inRow ((l.getD i default).kids))), (22, cj (e 5) (cjn (e 8) (SV.own 5))), (23, cj (e 6) (SV.oe 3 8 i 0)), (24, cj (e 7) (SV.oe 3 8 i 5)), (1, SV.bp 1 0), (2, SV.bp 2 0), (3, iv ((i : Int))), (4, SV.bp 4 0), (10, SV.own 3), (11, iv ((l.length : Int))), (12, iv ((i : Int)))], (cb (e 5) (cb (e 8) [(1, Own.box 1 (upd (stG l) 0 (SV.own 3)) 24), (2, Own.box 1 (cmpG [SV.v (Value.slice none 0 0)]) 24), (3, ownOf ndCell 8 default (l.set i ({ (l.getD i default) with kids := (l.getD i default).kids })) 61), (4, Own.box 8 (fun zi => (rowG ndCell default l) i (0 + zi)) 61)] [(1, Own.box 1 (upd (stG l) 0 (SV.own 3)) 24), (2, Own.box 1 (cmpG [SV.v (Value.slice none 0 0)]) 24), (3, ownOf ndCell 8 default l 61), (4, Own.box 8 (fun zi => (rowG ndCell default l) i (0 + zi)) 61), (5, ownOf inCell 1 0 ((l.getD i default).kids) 3)]) (cb (e 8) [] [(1, Own.box 1 (upd (stG l) 0 (SV.own 3)) 24), (2, Own.box 1 (cmpG [SV.v (Value.slice none 0 0)]) 24), (3, ownOf ndCell 8 default l 61), (4, Own.box 8 (fun zi => (rowG ndCell default l) i (0 + zi)) 61)]))⟩) ⟨[(17, SV.bp 1 0), (18, SV.own 3), (19, iv ((i : Int))), (20, SV.bp 4 5), (21, inRow ((l.getD i default).kids)), (23, SV.oe 3 8 i 0), (24, SV.oe 3 8 i 5), (1, SV.bp 1 0), (2, SV.bp 2 0), (3, iv ((i : Int))), (4, SV.bp 4 0), (10, SV.own 3), (11, iv ((l.length : Int))), (12, iv ((i : Int)))], [(1, Own.box 1 (upd (stG l) 0 (SV.own 3)) 24), (2, Own.box 1 (cmpG [SV.v (Value.slice none 0 0)]) 24), (3, ownOf ndCell 8 default (l.set i ({ (l.getD i default) with kids := (l.getD i default).kids })) 61), (4, Own.box 8 (fun zi => (rowG ndCell default l) i (0 + zi)) 61)]⟩ (by kernel_rfl) (by kernel_rfl) ?_ ⟨?_, ?_, ?_, ?_, ?_, ?_, ?_, ?_, ?_, Z⟩ ?_ ?_
   ·show Weak _ _ ⟨[(17, SV.junk), (18, SV.junk), (19, SV.junk), (20, SV.junk), (21, SV.junk), (22, SV.junk), (23, SV.junk), (24, SV.junk), (1, SV.bp 1 0), (2, SV.bp 2 0), (3, iv ((i : Int))), (4, SV.bp 4 0), (10, SV.own 3), (11, iv ((l.length : Int))), (12, iv ((i : Int)))], [(1, Own.box 1 (upd (stG l) 0 (SV.own 3)) 24), (2, Own.box 1 (cmpG [SV.v (Value.slice none 0 0)]) 24), (3, ownOf ndCell 8 default l 61), (4, Own.box 8 (fun zi => (rowG ndCell default l) i (0 + zi)) 61)]⟩
    refine We ?_ ?_
    ·exact ⟨Vj, Vj, Vj, Vj, Vj, Vj, Vj, Vj, V rfl, V rfl, V rfl, V rfl, V rfl, V rfl, V rfl, Z⟩
    ·exact ⟨⟨_, rfl, ⟨rfl, rfl, (An rfl)⟩⟩, ⟨_, rfl, ⟨rfl, rfl, (An rfl)⟩⟩, ⟨_, rfl, rfl⟩, ⟨_, rfl, ⟨rfl, rfl, (An rfl)⟩⟩, Z⟩
   ·intro e hdn he hdp
    have h8 : e 8 = false := fls he fun q => by obtain ⟨r7, -, -, -, -, -, -, -, -, -⟩ := (show e 7 = true ∧ e 5 = true ∧ e 5 = true ∧ e 0 = true ∧ e 1 = true ∧ e 2 = true ∧ e 3 = true ∧ e 4 = true ∧ e 5 = true ∧ True from hdn 8 q); obtain ⟨r6, -, -, -, -, -, -, -⟩ := (show e 6 = true ∧ e 0 = true ∧ e 1 = true ∧ e 2 = true ∧ e 3 = true ∧ e 4 = true ∧ e 5 = true ∧ True from hdn 7 r7); obtain ⟨r1, -, -, -, -, -, -, -, -⟩ := (show e 1 = true ∧ e 2 = true ∧ e 0 = true ∧ e 1 = true ∧ e 2 = true ∧ e 3 = true ∧ e 4 = true ∧ e 5 = true ∧ True from hdn 6 r6); obtain ⟨r0, -⟩ := (show e 0 = true ∧ True from hdn 1 r1); exact r0
    simp only [setE, he, h8, cj_t, cj_f, cjn_t, cjn_f, cb_t, cb_f]
    exact U (FlB _ _ (V rfl) Un24 rfl 0 Sz22) <| Nt <| weakS ⟨V rfl, V rfl, V rfl, V rfl, V rfl, V rfl, V rfl, V rfl, V rfl, V rfl, V rfl, V rfl, V rfl, V rfl, V rfl, Z⟩
   ·intro e hdn he hdp
    obtain ⟨h0, -⟩ := (show e 0 = true ∧ True from hdp)
    have h8 : e 8 = false := fls he fun q => by obtain ⟨r7, -, -, -, -, -, -, -, -, -⟩ := (show e 7 = true ∧ e 5 = true ∧ e 5 = true ∧ e 0 = true ∧ e 1 = true ∧ e 2 = true ∧ e 3 = true ∧ e 4 = true ∧ e 5 = true ∧ True from hdn 8 q); obtain ⟨r6, -, -, -, -, -, -, -⟩ := (show e 6 = true ∧ e 0 = true ∧ e 1 = true ∧ e 2 = true ∧ e 3 = true ∧ e 4 = true ∧ e 5 = true ∧ True from hdn 7 r7); obtain ⟨r1, -, -, -, -, -, -, -, -⟩ := (show e 1 = true ∧ e 2 = true ∧ e 0 = true ∧ e 1 = true ∧ e 2 = true ∧ e 3 = true ∧ e 4 = true ∧ e 5 = true ∧ True from hdn 6 r6); exact r1
    cases hu5 : e 5
    ·simp only [setE, h0, he, h8, hu5, cj_t, cj_f, cjn_t, cjn_f, cb_t, cb_f]
     refine U (LdB (V rfl) rfl Ga22 (by decide)) <| Nt <| We ?_ ?_
     ·exact ⟨V rfl, V rfl, V rfl, V rfl, V rfl, Vj, V rfl, V rfl, V rfl, V rfl, V rfl, V rfl, V rfl, V rfl, V rfl, Z⟩
     ·exact ⟨⟨_, rfl, ⟨rfl, rfl, (An rfl)⟩⟩, ⟨_, rfl, ⟨rfl, rfl, (An rfl)⟩⟩, ⟨_, rfl, rfl⟩, ⟨_, rfl, ⟨rfl, rfl, (An rfl)⟩⟩, Z⟩
    ·simp only [setE, h0, he, h8, hu5, cj_t, cj_f, cjn_t, cjn_f, cb_t, cb_f]
     refine U (LdB (V rfl) rfl Ga22 (by decide)) <| Nt <| We ?_ ?_
     ·exact ⟨V rfl, V rfl, V rfl, V rfl, V rfl, V rfl, V rfl, V rfl, V rfl, V rfl, V rfl, V rfl, V rfl, V rfl, V rfl, Z⟩
     ·exact ⟨⟨_, rfl, ⟨rfl, rfl, (An rfl)⟩⟩, ⟨_, rfl, ⟨rfl, rfl, (An rfl)⟩⟩, ⟨_, rfl, rfl⟩, ⟨_, rfl, ⟨rfl, rfl, (An rfl)⟩⟩, ⟨_, rfl, rfl⟩, Z⟩
   ·intro e hdn he hdp
    have h8 : e 8 = false := fls he fun q => by obtain ⟨r7, -, -, -, -, -, -, -, -, -⟩ := (show e 7 = true ∧ e 5 = true ∧ e 5 = true ∧ e 0 = true ∧ e 1 = true ∧ e 2 = true ∧ e 3 = true ∧ e 4 = true ∧ e 5 = true ∧ True from hdn 8 q); obtain ⟨r6, -, -, -, -, -, -, -⟩ := (show e 6 = true ∧ e 0 = true ∧ e 1 = true ∧ e 2 = true ∧ e 3 = true ∧ e 4 = true ∧ e 5 = true ∧ True from hdn 7 r7); obtain ⟨-, r2, -, -, -, -, -, -, -⟩ := (show e 1 = true ∧ e 2 = true ∧ e 0 = true ∧ e 1 = true ∧ e 2 = true ∧ e 3 = true ∧ e 4 = true ∧ e 5 = true ∧ True from hdn 6 r6); exact r2
    simp only [setE, he, h8, cj_t, cj_f, cjn_t, cjn_f, cb_t, cb_f]
    exact U (Mv (V rfl)) <| Nt <| weakS ⟨V rfl, V rfl, V rfl, V rfl, V rfl, V rfl, V rfl, V rfl, V rfl, V rfl, V rfl, V rfl, V rfl, V rfl, V rfl, Z⟩
   ·intro e hdn he hdp
    have h5 : e 5 = false := fls he fun q => by obtain ⟨r4, -⟩ := (show e 4 = true ∧ True from hdn 5 q); obtain ⟨r3, -⟩ := (show e 3 = true ∧ True from hdn 4 r4); exact r3
    have h8 : e 8 = false := fls he fun q => by obtain ⟨r7, -, -, -, -, -, -, -, -, -⟩ := (show e 7 = true ∧ e 5 = true ∧ e 5 = true ∧ e 0 = true ∧ e 1 = true ∧ e 2 = true ∧ e 3 = true ∧ e 4 = true ∧ e 5 = true ∧ True from hdn 8 q); obtain ⟨r6, -, -, -, -, -, -, -⟩ := (show e 6 = true ∧ e 0 = true ∧ e 1 = true ∧ e 2 = true ∧ e 3 = true ∧ e 4 = true ∧ e 5 = true ∧ True from hdn 7 r7); obtain ⟨-, -, -, -, -, -, -, r5, -⟩ := (show e 1 = true ∧ e 2 = true ∧ e 0 = true ∧ e 1 = true ∧ e 2 = true ∧ e 3 = true ∧ e 4 = true ∧ e 5 = true ∧ True from hdn 6 r6); obtain ⟨r4, -⟩ := (show e 4 = true ∧ True from hdn 5 r5); obtain ⟨r3, -⟩ := (show e 3 = true ∧ True from hdn 4 r4); exact r3
    simp only [setE, he, h5, h8, cj_t, cj_f, cjn_t, cjn_f, cb_t, cb_f]
    refine U (FlB _ _ (V rfl) Un61 rfl 0 Sz33) <| Nt <| We ?_ ?_
    ·exact ⟨V rfl, V rfl, V rfl, V rfl, V rfl, Vj, V rfl, V rfl, V rfl, V rfl, V rfl, V rfl, V rfl, V rfl, V rfl, Z⟩
    ·exact ⟨⟨_, rfl, ⟨rfl, rfl, (An rfl)⟩⟩, ⟨_, rfl, ⟨rfl, rfl, (An rfl)⟩⟩, ⟨_, rfl, rfl⟩, ⟨_, rfl, ⟨rfl, rfl, (An rfl)⟩⟩, Z⟩
   ·intro e hdn he hdp
    obtain ⟨h3, -⟩ := (show e 3 = true ∧ True from hdp)
    have h5 : e 5 = false := fls he fun q => by obtain ⟨r4, -⟩ := (show e 4 = true ∧ True from hdn 5 q); exact r4
    have h8 : e 8 = false := fls he fun q => by obtain ⟨r7, -, -, -, -, -, -, -, -, -⟩ := (show e 7 = true ∧ e 5 = true ∧ e 5 = true ∧ e 0 = true ∧ e 1 = true ∧ e 2 = true ∧ e 3 = true ∧ e 4 = true ∧ e 5 = true ∧ True from hdn 8 q); obtain ⟨r6, -, -, -, -, -, -, -⟩ := (show e 6 = true ∧ e 0 = true ∧ e 1 = true ∧ e 2 = true ∧ e 3 = true ∧ e 4 = true ∧ e 5 = true ∧ True from hdn 7 r7); obtain ⟨-, -, -, -, -, -, -, r5, -⟩ := (show e 1 = true ∧ e 2 = true ∧ e 0 = true ∧ e 1 = true ∧ e 2 = true ∧ e 3 = true ∧ e 4 = true ∧ e 5 = true ∧ True from hdn 6 r6); obtain ⟨r4, -⟩ := (show e 4 = true ∧ True from hdn 5 r5); exact r4
    simp only [setE, h3, he, h5, h8, cj_t, cj_f, cjn_t, cjn_f, cb_t, cb_f]
    refine U (LdB (V rfl) rfl Ga33 (by decide)) <| Nt <| We ?_ ?_
    ·exact ⟨V rfl, V rfl, V rfl, V rfl, V rfl, Vj, V rfl, V rfl, V rfl, V rfl, V rfl, V rfl, V rfl, V rfl, V rfl, Z⟩
    ·exact ⟨⟨_, rfl, ⟨rfl, rfl, (An rfl)⟩⟩, ⟨_, rfl, ⟨rfl, rfl, (An rfl)⟩⟩, ⟨_, rfl, rfl⟩, ⟨_, rfl, ⟨rfl, rfl, (An rfl)⟩⟩, Z⟩
   ·intro e hdn he hdp
    obtain ⟨h4, -⟩ := (show e 4 = true ∧ True from hdp)
    obtain ⟨h3, -⟩ := (show e 3 = true ∧ True from hdn 4 h4)
    have h6 : e 6 = false := fls he fun q => by obtain ⟨-, -, -, -, -, -, -, r5, -⟩ := (show e 1 = true ∧ e 2 = true ∧ e 0 = true ∧ e 1 = true ∧ e 2 = true ∧ e 3 = true ∧ e 4 = true ∧ e 5 = true ∧ True from hdn 6 q); exact r5
    have h7 : e 7 = false := fls he fun q => by obtain ⟨r6, -, -, -, -, -, -, -⟩ := (show e 6 = true ∧ e 0 = true ∧ e 1 = true ∧ e 2 = true ∧ e 3 = true ∧ e 4 = true ∧ e 5 = true ∧ True from hdn 7 q); obtain ⟨-, -, -, -, -, -, -, r5, -⟩ := (show e 1 = true ∧ e 2 = true ∧ e 0 = true ∧ e 1 = true ∧ e 2 = true ∧ e 3 = true ∧ e 4 = true ∧ e 5 = true ∧ True from hdn 6 r6); exact r5
    have h8 : e 8 = false := fls he fun q => by obtain ⟨r7, -, -, -, -, -, -, -, -, -⟩ := (show e 7 = true ∧ e 5 = true ∧ e 5 = true ∧ e 0 = true ∧ e 1 = true ∧ e 2 = true ∧ e 3 = true ∧ e 4 = true ∧ e 5 = true ∧ True from hdn 8 q); obtain ⟨r6, -, -, -, -, -, -, -⟩ := (show e 6 = true ∧ e 0 = true ∧ e 1 = true ∧ e 2 = true ∧ e 3 = true ∧ e 4 = true ∧ e 5 = true ∧ True from hdn 7 r7); obtain ⟨-, -, -, -, -, -, -, r5, -⟩ := (show e 1 = true ∧ e 2 = true ∧ e 0 = true ∧ e 1 = true ∧ e 2 = true ∧ e 3 = true ∧ e 4 = true ∧ e 5 = true ∧ True from hdn 6 r6); exact r5
    simp only [setE, h3, h4, he, h6, h7, h8, cj_t, cj_f, cjn_t, cjn_f, cb_t, cb_f]
    refine CM (cargs := [inRow ((l.getD i default).kids)]) [] [(0, 5)] en61 (by exact ⟨(V rfl), Z⟩) (clone_ct ((l.getD i default).kids) (by omega)) (by exact Z) rfl (freshN_cons (fresh_mk ⟨(noId_cj rfl), (noId_cj rfl), (noId_cj rfl), rfl, rfl, rfl, rfl, rfl, rfl, rfl, rfl, rfl, rfl, rfl, rfl, Z⟩ rfl rfl) rfl rfl) rfl rfl <| Nt <| We ?_ ?_
    ·exact ⟨V rfl, V rfl, V rfl, V rfl, V rfl, V rfl, Vj, Vj, V rfl, V rfl, V rfl, V rfl, V rfl, V rfl, V rfl, Z⟩
    ·exact ⟨⟨_, rfl, ⟨rfl, rfl, (An rfl)⟩⟩, ⟨_, rfl, ⟨rfl, rfl, (An rfl)⟩⟩, ⟨_, rfl, rfl⟩, ⟨_, rfl, ⟨rfl, rfl, (An rfl)⟩⟩, ⟨_, rfl, rfl⟩, Z⟩
   ·intro e hdn he hdp
    obtain ⟨h1, h2, h0, -, -, h3, h4, h5, -⟩ := (show e 1 = true ∧ e 2 = true ∧ e 0 = true ∧ e 1 = true ∧ e 2 = true ∧ e 3 = true ∧ e 4 = true ∧ e 5 = true ∧ True from hdp)
    have h8 : e 8 = false := fls he fun q => by obtain ⟨r7, -, -, -, -, -, -, -, -, -⟩ := (show e 7 = true ∧ e 5 = true ∧ e 5 = true ∧ e 0 = true ∧ e 1 = true ∧ e 2 = true ∧ e 3 = true ∧ e 4 = true ∧ e 5 = true ∧ True from hdn 8 q); obtain ⟨r6, -, -, -, -, -, -, -⟩ := (show e 6 = true ∧ e 0 = true ∧ e 1 = true ∧ e 2 = true ∧ e 3 = true ∧ e 4 = true ∧ e 5 = true ∧ True from hdn 7 r7); exact r6
    simp only [setE, h0, h1, h2, h3, h4, h5, he, h8, cj_t, cj_f, cjn_t, cjn_f, cb_t, cb_f]
    refine U (IOn (i := i) (V rfl) rfl (V rfl) ts22 te22 (by omega)) <| Nt <| We ?_ ?_
    ·exact ⟨V rfl, V rfl, V rfl, V rfl, V rfl, V rfl, V rfl, V rfl, V rfl, V rfl, V rfl, V rfl, V rfl, V rfl, V rfl, Z⟩
    ·exact ⟨⟨_, rfl, ⟨rfl, rfl, (An rfl)⟩⟩, ⟨_, rfl, ⟨rfl, rfl, (An rfl)⟩⟩, ⟨_, rfl, rfl⟩, ⟨_, rfl, ⟨rfl, rfl, (An rfl)⟩⟩, ⟨_, rfl, rfl⟩, Z⟩
   ·intro e hdn he hdp
    obtain ⟨h6, h0, h1, h2, h3, h4, h5, -⟩ := (show e 6 = true ∧ e 0 = true ∧ e 1 = true ∧ e 2 = true ∧ e 3 = true ∧ e 4 = true ∧ e 5 = true ∧ True from hdp)
    have h8 : e 8 = false := fls he fun q => by obtain ⟨r7, -, -, -, -, -, -, -, -, -⟩ := (show e 7 = true ∧ e 5 = true ∧ e 5 = true ∧ e 0 = true ∧ e 1 = true ∧ e 2 = true ∧ e 3 = true ∧ e 4 = true ∧ e 5 = true ∧ True from hdn 8 q); exact r7
    simp only [setE, h0, h1, h2, h3, h4, h5, h6, he, h8, cj_t, cj_f, cjn_t, cjn_f, cb_t, cb_f]
    refine U (FlO _ _ (V rfl) Un61 rfl 0 Sz33) <| Nt <| We ?_ ?_
    ·exact ⟨V rfl, V rfl, V rfl, V rfl, V rfl, V rfl, V rfl, V rfl, V rfl, V rfl, V rfl, V rfl, V rfl, V rfl, V rfl, Z⟩
    ·exact ⟨⟨_, rfl, ⟨rfl, rfl, (An rfl)⟩⟩, ⟨_, rfl, ⟨rfl, rfl, (An rfl)⟩⟩, ⟨_, rfl, rfl⟩, ⟨_, rfl, ⟨rfl, rfl, (An rfl)⟩⟩, ⟨_, rfl, rfl⟩, Z⟩
   ·intro e hdn he hdp
    obtain ⟨h7, h5, -, h0, h1, h2, h3, h4, -, -⟩ := (show e 7 = true ∧ e 5 = true ∧ e 5 = true ∧ e 0 = true ∧ e 1 = true ∧ e 2 = true ∧ e 3 = true ∧ e 4 = true ∧ e 5 = true ∧ True from hdp)
    obtain ⟨h6, -, -, -, -, -, -, -⟩ := (show e 6 = true ∧ e 0 = true ∧ e 1 = true ∧ e 2 = true ∧ e 3 = true ∧ e 4 = true ∧ e 5 = true ∧ True from hdn 7 h7)
    simp only [setE, h0, h1, h2, h3, h4, h5, h6, h7, he, cj_t, cj_f, cjn_t, cjn_f, cb_t, cb_f]
    refine FzT 5 rfl <| ?_
    have hidx0 : i < l.length := by first | omega | (simp; omega)
    refine StO (rowG ndCell default (l.set i ({ (l.getD i default) with kids := (l.getD i default).kids }))) (V rfl) rfl (V rfl) rfl rfl Sz33 (by decide) (show l.length = (l.set i ({ (l.getD i default) with kids := (l.getD i default).kids })).length from List.length_set.symm) (set_at hidx0 rfl) (set_typed hidx0 fun t ht hne => match t, ht, hne with | 0, _, _ => rfl | 1, _, _ => rfl | 2, _, _ => rfl | 3, _, _ => rfl | 4, _, _ => rfl | 5, _, hne => absurd rfl hne | 6, _, _ => rfl | 7, _, _ => rfl) <| Nt <| We ?_ ?_
    ·exact ⟨V rfl, V rfl, V rfl, V rfl, V rfl, Vj, V rfl, V rfl, V rfl, V rfl, V rfl, V rfl, V rfl, V rfl, V rfl, Z⟩
    ·exact ⟨⟨_, rfl, ⟨rfl, rfl, (An rfl)⟩⟩, ⟨_, rfl, ⟨rfl, rfl, (An rfl)⟩⟩, ⟨_, rfl, rfl⟩, ⟨_, rfl, ⟨rfl, rfl, (An rfl)⟩⟩, Z⟩
   ·intro e he
    have h0 := he 0 (by decide)
    have h1 := he 1 (by decide)
    have h2 := he 2 (by decide)
    have h3 := he 3 (by decide)
    have h4 := he 4 (by decide)
    have h5 := he 5 (by decide)
    have h6 := he 6 (by decide)
    have h7 := he 7 (by decide)
    have h8 := he 8 (by decide)
    show Weak _ ⟨[(17, cj (e 0) (SV.bp 1 0)), (18, cj (e 1) (SV.own 3)), (19, cj (e 2) (iv ((i : Int)))), (20, cj (e 3) (SV.bp 4 5)), (21, cj (e 4) (inRow ((l.getD i default).kids))), (22, cj (e 5) (cjn (e 8) (SV.own 5))), (23, cj (e 6) (SV.oe 3 8 i 0)), (24, cj (e 7) (SV.oe 3 8 i 5)), (1, SV.bp 1 0), (2, SV.bp 2 0), (3, iv ((i : Int))), (4, SV.bp 4 0), (10, SV.own 3), (11, iv ((l.length : Int))), (12, iv ((i : Int)))], (cb (e 5) (cb (e 8) [(1, Own.box 1 (upd (stG l) 0 (SV.own 3)) 24), (2, Own.box 1 (cmpG [SV.v (Value.slice none 0 0)]) 24), (3, ownOf ndCell 8 default (l.set i ({ (l.getD i default) with kids := (l.getD i default).kids })) 61), (4, Own.box 8 (fun zi => (rowG ndCell default l) i (0 + zi)) 61)] [(1, Own.box 1 (upd (stG l) 0 (SV.own 3)) 24), (2, Own.box 1 (cmpG [SV.v (Value.slice none 0 0)]) 24), (3, ownOf ndCell 8 default l 61), (4, Own.box 8 (fun zi => (rowG ndCell default l) i (0 + zi)) 61), (5, ownOf inCell 1 0 ((l.getD i default).kids) 3)]) (cb (e 8) [] [(1, Own.box 1 (upd (stG l) 0 (SV.own 3)) 24), (2, Own.box 1 (cmpG [SV.v (Value.slice none 0 0)]) 24), (3, ownOf ndCell 8 default l 61), (4, Own.box 8 (fun zi => (rowG ndCell default l) i (0 + zi)) 61)]))⟩ _
    simp only [h0, h1, h2, h3, h4, h5, h6, h7, h8]
    show Weak _ ⟨[(17, SV.bp 1 0), (18, SV.own 3), (19, iv ((i : Int))), (20, SV.bp 4 5), (21, inRow ((l.getD i default).kids)), (22, SV.junk), (23, SV.oe 3 8 i 0), (24, SV.oe 3 8 i 5), (1, SV.bp 1 0), (2, SV.bp 2 0), (3, iv ((i : Int))), (4, SV.bp 4 0), (10, SV.own 3), (11, iv ((l.length : Int))), (12, iv ((i : Int)))], [(1, Own.box 1 (upd (stG l) 0 (SV.own 3)) 24), (2, Own.box 1 (cmpG [SV.v (Value.slice none 0 0)]) 24), (3, ownOf ndCell 8 default (l.set i ({ (l.getD i default) with kids := (l.getD i default).kids })) 61), (4, Own.box 8 (fun zi => (rowG ndCell default l) i (0 + zi)) 61)]⟩ _
    refine We ?_ ?_
    ·exact ⟨V rfl, V rfl, V rfl, V rfl, V rfl, V rfl, V rfl, V rfl, V rfl, V rfl, V rfl, V rfl, V rfl, V rfl, Z⟩
    ·exact ⟨⟨_, rfl, ⟨rfl, rfl, (An rfl)⟩⟩, ⟨_, rfl, ⟨rfl, rfl, (An rfl)⟩⟩, ⟨_, rfl, rfl⟩, ⟨_, rfl, ⟨rfl, rfl, (An rfl)⟩⟩, Z⟩
   refine Rq <| O (Ad (V rfl) K (by omega)) <| O (Mv (V rfl)) <| Nq <| k_ownE 3 l rfl (by exact set_kids (by omega)) <| Nx (i + 1) (by show (i + 1) ≤ l.length; first | omega | (simp; done) | (refine ⟨?_, ?_⟩ <;> first | omega | (simp; done))) (by show l.length - (i + 1) < l.length - i; omega) (We (ow := [(1, Own.box 1 (upd (stG l) 0 (SV.own 3)) 24), (2, Own.box 1 (cmpG [SV.v (Value.slice none 0 0)]) 24), (3, ownOf ndCell 8 default l 61)]) (Vs rfl) (by exact ⟨⟨_, rfl, rfl, rfl, (An rfl)⟩, ⟨_, rfl, rfl, rfl, (An rfl)⟩, ⟨_, rfl, rfl⟩, Z⟩))
  ·have hc1s := hc1; try simp only [BL] at hc1s
   exact Ex <| Sq <| Rt <| U (LBA (V rfl) rfl Ga24 Sz24 (by decide)) <| StA (V rfl) rfl (V rfl) Sz24 <| Nt <| c_mv 3 0 rfl rfl <| Rx <| RM1 rfl (rv_aggI (g' := cmpG [SV.own 0]) (rv_cell (V rfl) rfl Ga24 Sz24) ⟨Z, Ir⟩) (by exact ⟨⟨_, rfl, rfl⟩, Z⟩) (by show SV.agg 1 (cmpG [SV.own 0]) = SV.agg 1 (cmpG [SV.own 0]); rfl)
theorem make_ct (l : List Nd) (tag : Int) (hb : ∀ n ∈ l, n.kids.length ≤ 17592186043904) : Ct Try.prog 40 [SV.agg 1 (stG l), iv (tag)] (sv3 (SV.agg 1 (stG (mkSt l tag).1)) (SV.agg 2 (hdCell (mkSt l tag).2.1)) (iv (mkSt l tag).2.2)) := by
 refine CtO 59 Try.func40 rfl rfl rfl fun E => row_lenA 0 (V (s := 0) rfl) rfl rfl fun hl0_0 => Sq <| Rt <| BxA 1 (V rfl) rfl rfl <| Al 2 zero24 rfl rfl <| Al 3 zero26 rfl rfl <| U (As K) <| Nt <| Sq <| Sq <| Rq <| O (LBA (V rfl) rfl Ga24 Sz24 (by decide)) <| CQ en44 (by exact ⟨⟨(Vi (g' := stG l) (V rfl) ⟨Z, Ir⟩), rfl⟩, Z⟩) (stcheck_ct l (by first | assumption | exact kb_nil | exact kb_of (by assumption))) <| O (As (V rfl)) <| Nq <| Sq <| Rq <| O (Mv (V rfl)) <| O (Qn (V rfl) K) <| Nq <| Cd (V rfl) (fun hc1 => ?_) (fun hc1 => ?_)
 ·have hc1s := hc1; try simp only [BL] at hc1s
  exact Sq <| Rt <| U (Bu [] id (cmpG [SV.v (Value.slice none 0 0)]) zero24 build24 (by exact Z) (by decide) ⟨Z, rfl⟩) <| U (Bu [] id (hdCell ⟨0, 0⟩) zero26 build26 (by exact Z) (by decide) ⟨⟨Z, rfl⟩, rfl⟩) <| U (Mv (V rfl)) <| StA (V rfl) rfl (V rfl) Sz24 <| StA (V rfl) rfl (V rfl) Sz26 <| U (As (V rfl)) <| Nt <| Rx <| RR3 rfl (rv_aggI (g' := stG ([])) (rv_cell (V rfl) rfl Ga24 Sz24) ⟨Z, In⟩) (rv_cell (V rfl) rfl Ga26 Sz26) (rv_tmp (V rfl)) rfl rfl rfl (by show sv3 (SV.agg 1 (stG ([]))) (SV.agg 2 (hdCell ⟨0, 0⟩)) (iv (checkSt l)) = sv3 (SV.agg 1 (stG (mkSt l tag).1)) (SV.agg 2 (hdCell (mkSt l tag).2.1)) (iv (mkSt l tag).2.2); rw [mk_1 hc1s])
 ·have hc1s := hc1; try simp only [BL] at hc1s
  have hl24 := checkSt_len hc1s
  have hkf : ∀ i, i < l.length → (l.getD i default).kids.length ≤ 24 := fun i hi => kids_few hc1s hi
  refine Sk <| Sq <| Sq <| Rq <| O (Mv (V rfl)) <| O (Lt (V rfl) K) <| O (Mv (V rfl)) <| Og (Gn rfl rfl) (fun hg => Mv (V rfl)) <| Og (Gn rfl rfl) (fun hg => Gt (Vg (V rfl) hg) K) <| O (Qr (V rfl) (fun h => Vg (V rfl) (notT h))) <| Nq <| Cd (V rfl) (fun hc2 => ?_) (fun hc2 => ?_)
  ·have hc2s := hc2; try simp only [BL] at hc2s
   exact Sq <| Rt <| U (Bu [] id (cmpG [SV.v (Value.slice none 0 0)]) zero24 build24 (by exact Z) (by decide) ⟨Z, rfl⟩) <| U (Bu [] id (hdCell ⟨0, 0⟩) zero26 build26 (by exact Z) (by decide) ⟨⟨Z, rfl⟩, rfl⟩) <| StA (V rfl) rfl (V rfl) Sz24 <| StA (V rfl) rfl (V rfl) Sz26 <| U (As K) <| Nt <| Rx <| RR3 rfl (rv_aggI (g' := stG ([])) (rv_cell (V rfl) rfl Ga24 Sz24) ⟨Z, In⟩) (rv_cell (V rfl) rfl Ga26 Sz26) (rv_tmp (V rfl)) rfl rfl rfl (by show sv3 (SV.agg 1 (stG ([]))) (SV.agg 2 (hdCell ⟨0, 0⟩)) (iv (2)) = sv3 (SV.agg 1 (stG (mkSt l tag).1)) (SV.agg 2 (hdCell (mkSt l tag).2.1)) (iv (mkSt l tag).2.2); rw [mk_2 hc1s hc2s])
  ·have hc2s := hc2; try simp only [BL] at hc2s
   refine Sk <| Sq <| Rt <| U (FlB _ _ (V rfl) Un24 rfl 0 Sz22) <| U (LdB (V rfl) rfl Ga22 (by decide)) <| CT en113 (by exact ⟨⟨(V rfl), rfl⟩, ⟨(VA (Vf) rfl), rfl⟩, Z⟩) (idxf113_ct roomB en114 rfl room_ct l) <| U (As (V rfl)) <| Nt <| Sq <| Sq <| Rq <| O (Mv (V rfl)) <| O (Lt (V rfl) K) <| Nq <| Cd (V rfl) (fun hc3 => ?_) (fun hc3 => ?_)
   ·have hc3s := hc3; try simp only [BL] at hc3s
    exact Sq <| Rt <| U (Bu [] id (cmpG [SV.v (Value.slice none 0 0)]) zero24 build24 (by exact Z) (by decide) ⟨Z, rfl⟩) <| U (Bu [] id (hdCell ⟨0, 0⟩) zero26 build26 (by exact Z) (by decide) ⟨⟨Z, rfl⟩, rfl⟩) <| StA (V rfl) rfl (V rfl) Sz24 <| StA (V rfl) rfl (V rfl) Sz26 <| U (As K) <| Nt <| Rx <| RR3 rfl (rv_aggI (g' := stG ([])) (rv_cell (V rfl) rfl Ga24 Sz24) ⟨Z, In⟩) (rv_cell (V rfl) rfl Ga26 Sz26) (rv_tmp (V rfl)) rfl rfl rfl (by show sv3 (SV.agg 1 (stG ([]))) (SV.agg 2 (hdCell ⟨0, 0⟩)) (iv (1)) = sv3 (SV.agg 1 (stG (mkSt l tag).1)) (SV.agg 2 (hdCell (mkSt l tag).2.1)) (iv (mkSt l tag).2.2); rw [mk_3 hc1s (by omega) hc3s])
   ·have hc3s := hc3; try simp only [BL] at hc3s
    obtain ⟨i0, he0, hi0, hp0, -⟩ := (idxF_cases roomB default l).resolve_left fun h => hc3s (by omega)
    have hku : (idxF roomB l).toNat < l.length := by omega
    have hmt : (mkTag l (Int.toNat (idxF roomB l)) tag).length = l.length := mkTag_len
    have hma : (mkAt l (Int.toNat (idxF roomB l)) tag).length = l.length := mkAt_len
    have hei : (idxF roomB l).toNat = i0 := by omega
    have hus := (uses_ok hc1s hi0)
    have hul := (roomB_lt hp0).2
    refine Sk <| Sq <| Rt <| U (LBA (V rfl) rfl Ga24 Sz24 (by decide)) <| CM (cargs := [SV.agg 1 (stG l)]) [] [(0, 4)] en115 (by exact ⟨(Vi (g' := stG l) (V rfl) ⟨Z, Ir⟩), Z⟩) (copy_ct l (by omega) (by assumption)) (by exact Z) rfl rfl rfl rfl <| StA (V rfl) rfl (V rfl) Sz24 <| Nt <| Sq <| Rq <| O (FlB _ _ (V rfl) Un24 rfl 0 Sz22) <| O (LdB (V rfl) rfl Ga22 (by decide)) <| O (Mv (V rfl)) <| O (IxO (V rfl) rfl (V rfl) ts22 te22 (by omega) (by first | omega | (simp only [List.length_set, mkTag_len, mkAt_len]; omega))) <| O (As (V rfl)) <| Nq <| Sq <| Rt <| U (Mv (V rfl)) <| U (Mv (V rfl)) <| U (Mv (V rfl)) <| U (q_nilO (V rfl)) <| U (FlO _ _ (V rfl) Un61 rfl 0 Sz4) <| ?_
    have hidx0 : Int.toNat (idxF roomB l) < l.length := by first | omega | (simp; omega)
    refine StO (rowG ndCell default (l.set (Int.toNat (idxF roomB l)) ({ (l.getD (Int.toNat (idxF roomB l)) default) with used := true }))) (V rfl) rfl K rfl rfl Sz4 (by decide) (show l.length = (l.set (Int.toNat (idxF roomB l)) ({ (l.getD (Int.toNat (idxF roomB l)) default) with used := true })).length from List.length_set.symm) (set_at hidx0 rfl) (set_typed hidx0 fun t ht hne => match t, ht, hne with | 0, _, hne => absurd rfl hne | 1, _, _ => rfl | 2, _, _ => rfl | 3, _, _ => rfl | 4, _, _ => rfl | 5, _, _ => rfl | 6, _, _ => rfl | 7, _, _ => rfl) <| U (q_nilO (V rfl)) <| U (FlO _ _ (V rfl) Un61 rfl 0 Sz3) <| ?_
    have hidx1 : Int.toNat (idxF roomB l) < (l.set (Int.toNat (idxF roomB l)) ({ (l.getD (Int.toNat (idxF roomB l)) default) with used := true })).length := by first | omega | (simp; omega)
    refine StO (rowG ndCell default ((l.set (Int.toNat (idxF roomB l)) ({ (l.getD (Int.toNat (idxF roomB l)) default) with used := true })).set (Int.toNat (idxF roomB l)) ({ ((l.set (Int.toNat (idxF roomB l)) ({ (l.getD (Int.toNat (idxF roomB l)) default) with used := true })).getD (Int.toNat (idxF roomB l)) default) with tag := tag }))) (V rfl) rfl (V rfl) rfl rfl Sz3 (by decide) (show (l.set (Int.toNat (idxF roomB l)) ({ (l.getD (Int.toNat (idxF roomB l)) default) with used := true })).length = ((l.set (Int.toNat (idxF roomB l)) ({ (l.getD (Int.toNat (idxF roomB l)) default) with used := true })).set (Int.toNat (idxF roomB l)) ({ ((l.set (Int.toNat (idxF roomB l)) ({ (l.getD (Int.toNat (idxF roomB l)) default) with used := true })).getD (Int.toNat (idxF roomB l)) default) with tag := tag })).length from List.length_set.symm) (set_at hidx1 rfl) (set_typed hidx1 fun t ht hne => match t, ht, hne with | 0, _, _ => rfl | 1, _, _ => rfl | 2, _, hne => absurd rfl hne | 3, _, _ => rfl | 4, _, _ => rfl | 5, _, _ => rfl | 6, _, _ => rfl | 7, _, _ => rfl) <| Nt <| Sq <| c_ownE 4 (mkTag l (Int.toNat (idxF roomB l)) tag) rfl (by exact mkTag_eq hku) <| Rt <| U (Mv (V rfl)) <| U (q_nilO (V rfl)) <| U (FlO _ _ (V rfl) Un61 rfl 0 Sz3) <| U (LdO (V rfl) rfl Ga3 (by decide)) <| U (Ad (V rfl) K (by rw [mkTag_uses hku, hei]; omega)) <| U (q_nilO (V rfl)) <| U (FlO _ _ (V rfl) Un61 rfl 0 Sz3) <| ?_
    have hidx2 : Int.toNat (idxF roomB l) < (mkTag l (Int.toNat (idxF roomB l)) tag).length := by first | omega | (simp; omega)
    refine StO (rowG ndCell default ((mkTag l (Int.toNat (idxF roomB l)) tag).set (Int.toNat (idxF roomB l)) ({ ((mkTag l (Int.toNat (idxF roomB l)) tag).getD (Int.toNat (idxF roomB l)) default) with uses := (((mkTag l (Int.toNat (idxF roomB l)) tag).getD (Int.toNat (idxF roomB l)) default).uses) + 1 }))) (V rfl) rfl (V rfl) rfl rfl Sz3 (by decide) (show (mkTag l (Int.toNat (idxF roomB l)) tag).length = ((mkTag l (Int.toNat (idxF roomB l)) tag).set (Int.toNat (idxF roomB l)) ({ ((mkTag l (Int.toNat (idxF roomB l)) tag).getD (Int.toNat (idxF roomB l)) default) with uses := (((mkTag l (Int.toNat (idxF roomB l)) tag).getD (Int.toNat (idxF roomB l)) default).uses) + 1 })).length from List.length_set.symm) (set_at hidx2 rfl) (set_typed hidx2 fun t ht hne => match t, ht, hne with | 0, _, _ => rfl | 1, _, hne => absurd rfl hne | 2, _, _ => rfl | 3, _, _ => rfl | 4, _, _ => rfl | 5, _, _ => rfl | 6, _, _ => rfl | 7, _, _ => rfl) <| Nt <| Sq <| c_ownE 4 (mkAt l (Int.toNat (idxF roomB l)) tag) rfl (by exact mkAt_eq hku) <| c_rd (fun e => ⟨[(52, cj (e 0) (SV.agg 1 (fun zi => (fun zt => SV.renm (rn [(0, 4)]) ((cmpG [SV.own 0]) zt)) (0 + zi)))), (53, cj (e 1) (iv (idxF roomB l))), (54, cj (e 2) (SV.oe 4 8 (Int.toNat (idxF roomB l)) 0)), (55, cj (e 3) (SV.oe 4 8 (Int.toNat (idxF roomB l)) 0)), (56, cj (e 4) (SV.oe 4 8 (Int.toNat (idxF roomB l)) 1)), (57, cj (e 5) (iv (((mkAt l (Int.toNat (idxF roomB l)) tag).getD (Int.toNat (idxF roomB l)) default).uses))), (58, cj (e 6) (SV.agg 2 (hdCell ⟨idxF roomB l, ((mkAt l (Int.toNat (idxF roomB l)) tag).getD (Int.toNat (idxF roomB l)) default).uses⟩))), (6, cj (e 9) (iv (0))), (2, SV.bp 1 0), (4, SV.bp 2 0), (5, SV.bp 3 0), (8, iv (idxF roomB l)), (9, SV.oe 4 8 (Int.toNat (idxF roomB l)) 0)], (cb (e 7) (cb (e 8) [(1, Own.box 1 (fun zt => SV.renm (rn [(0, 4)]) ((cmpG [SV.own 0]) zt)) 24), (2, Own.box 1 (fun zi => (fun zt => SV.renm (rn [(0, 4)]) ((cmpG [SV.own 0]) zt)) (0 + zi)) 24), (3, Own.box 2 (hdCell ⟨idxF roomB l, ((mkAt l (Int.toNat (idxF roomB l)) tag).getD (Int.toNat (idxF roomB l)) default).uses⟩) 26), (4, ownOf ndCell 8 default (mkAt l (Int.toNat (idxF roomB l)) tag) 61)] [(1, Own.box 1 (fun zt => SV.renm (rn [(0, 4)]) ((cmpG [SV.own 0]) zt)) 24), (2, Own.box 1 (fun zi => (fun zt => SV.renm (rn [(0, 4)]) ((cmpG [SV.own 0]) zt)) (0 + zi)) 24), (3, Own.box 2 (cmpG [iv (0), iv (0)]) 26), (4, ownOf ndCell 8 default (mkAt l (Int.toNat (idxF roomB l)) tag) 61)]) (cb (e 8) [] [(1, Own.box 1 (fun zt => SV.renm (rn [(0, 4)]) ((cmpG [SV.own 0]) zt)) 24), (2, Own.box 1 (cmpG [SV.v (Value.slice none 0 0)]) 24), (3, Own.box 2 (cmpG [iv (0), iv (0)]) 26), (4, ownOf ndCell 8 default (mkAt l (Int.toNat (idxF roomB l)) tag) 61)]))⟩) ⟨[(52, SV.agg 1 (fun zi => (fun zt => SV.renm (rn [(0, 4)]) ((cmpG [SV.own 0]) zt)) (0 + zi))), (53, iv (idxF roomB l)), (54, SV.oe 4 8 (Int.toNat (idxF roomB l)) 0), (55, SV.oe 4 8 (Int.toNat (idxF roomB l)) 0), (56, SV.oe 4 8 (Int.toNat (idxF roomB l)) 1), (57, iv (((mkAt l (Int.toNat (idxF roomB l)) tag).getD (Int.toNat (idxF roomB l)) default).uses)), (58, SV.agg 2 (hdCell ⟨idxF roomB l, ((mkAt l (Int.toNat (idxF roomB l)) tag).getD (Int.toNat (idxF roomB l)) default).uses⟩)), (6, iv (0)), (2, SV.bp 1 0), (4, SV.bp 2 0), (5, SV.bp 3 0), (8, iv (idxF roomB l)), (9, SV.oe 4 8 (Int.toNat (idxF roomB l)) 0)], [(1, Own.box 1 (fun zt => SV.renm (rn [(0, 4)]) ((cmpG [SV.own 0]) zt)) 24), (2, Own.box 1 (fun zi => (fun zt => SV.renm (rn [(0, 4)]) ((cmpG [SV.own 0]) zt)) (0 + zi)) 24), (3, Own.box 2 (hdCell ⟨idxF roomB l, ((mkAt l (Int.toNat (idxF roomB l)) tag).getD (Int.toNat (idxF roomB l)) default).uses⟩) 26), (4, ownOf ndCell 8 default (mkAt l (Int.toNat (idxF roomB l)) tag) 61)]⟩ (by kernel_rfl) (by kernel_rfl) ?_ ⟨?_, ?_, ?_, ?_, ?_, ?_, ?_, ?_, ?_, ?_, Z⟩ ?_ ?_
    ·show Weak _ _ ⟨[(52, SV.junk), (53, SV.junk), (54, SV.junk), (55, SV.junk), (56, SV.junk), (57, SV.junk), (58, SV.junk), (6, SV.junk), (2, SV.bp 1 0), (4, SV.bp 2 0), (5, SV.bp 3 0), (8, iv (idxF roomB l)), (9, SV.oe 4 8 (Int.toNat (idxF roomB l)) 0)], [(1, Own.box 1 (fun zt => SV.renm (rn [(0, 4)]) ((cmpG [SV.own 0]) zt)) 24), (2, Own.box 1 (cmpG [SV.v (Value.slice none 0 0)]) 24), (3, Own.box 2 (cmpG [iv (0), iv (0)]) 26), (4, ownOf ndCell 8 default (mkAt l (Int.toNat (idxF roomB l)) tag) 61)]⟩
     refine We ?_ ?_
     ·exact ⟨Vj, Vj, Vj, Vj, Vj, Vj, Vj, Vj, V rfl, V rfl, V rfl, V rfl, V rfl, Z⟩
     ·exact ⟨⟨_, rfl, ⟨rfl, rfl, (An rfl)⟩⟩, ⟨_, rfl, ⟨rfl, rfl, (An rfl)⟩⟩, ⟨_, rfl, ⟨rfl, rfl, (An rfl)⟩⟩, ⟨_, rfl, rfl⟩, Z⟩
    ·intro e hdn he hdp
     have h7 : e 7 = false := fls he fun q => by obtain ⟨r0, -, -⟩ := (show e 0 = true ∧ e 0 = true ∧ True from hdn 7 q); exact r0
     have h8 : e 8 = false := fls he fun q => by obtain ⟨-, r7, -, -, -, -, -, -, -, -, -⟩ := (show e 6 = true ∧ e 7 = true ∧ e 0 = true ∧ e 1 = true ∧ e 2 = true ∧ e 3 = true ∧ e 4 = true ∧ e 5 = true ∧ e 6 = true ∧ e 7 = true ∧ True from hdn 8 q); obtain ⟨r0, -, -⟩ := (show e 0 = true ∧ e 0 = true ∧ True from hdn 7 r7); exact r0
     simp only [setE, he, h7, h8, cj_t, cj_f, cjn_t, cjn_f, cb_t, cb_f]
     refine U (LBA (V rfl) rfl Ga24 Sz24 (by decide)) <| Nt <| We ?_ ?_
     ·exact ⟨V rfl, V rfl, V rfl, V rfl, V rfl, V rfl, V rfl, V rfl, V rfl, V rfl, V rfl, V rfl, V rfl, Z⟩
     ·exact ⟨⟨_, rfl, ⟨rfl, rfl, (An rfl)⟩⟩, ⟨_, rfl, ⟨rfl, rfl, (An rfl)⟩⟩, ⟨_, rfl, ⟨rfl, rfl, (An rfl)⟩⟩, ⟨_, rfl, rfl⟩, Z⟩
    ·intro e hdn he hdp
     have h8 : e 8 = false := fls he fun q => by obtain ⟨r6, -, -, -, -, -, -, -, -, -, -⟩ := (show e 6 = true ∧ e 7 = true ∧ e 0 = true ∧ e 1 = true ∧ e 2 = true ∧ e 3 = true ∧ e 4 = true ∧ e 5 = true ∧ e 6 = true ∧ e 7 = true ∧ True from hdn 8 q); obtain ⟨r1, -, -⟩ := (show e 1 = true ∧ e 5 = true ∧ True from hdn 6 r6); exact r1
     simp only [setE, he, h8, cj_t, cj_f, cjn_t, cjn_f, cb_t, cb_f]
     exact U (Mv (V rfl)) <| Nt <| weakS ⟨V rfl, V rfl, V rfl, V rfl, V rfl, V rfl, V rfl, V rfl, V rfl, V rfl, V rfl, V rfl, V rfl, Z⟩
    ·intro e hdn he hdp
     have h8 : e 8 = false := fls he fun q => by obtain ⟨r6, -, -, -, -, -, -, -, -, -, -⟩ := (show e 6 = true ∧ e 7 = true ∧ e 0 = true ∧ e 1 = true ∧ e 2 = true ∧ e 3 = true ∧ e 4 = true ∧ e 5 = true ∧ e 6 = true ∧ e 7 = true ∧ True from hdn 8 q); obtain ⟨-, r5, -⟩ := (show e 1 = true ∧ e 5 = true ∧ True from hdn 6 r6); obtain ⟨r4, -⟩ := (show e 4 = true ∧ True from hdn 5 r5); obtain ⟨r3, -⟩ := (show e 3 = true ∧ True from hdn 4 r4); obtain ⟨r2, -⟩ := (show e 2 = true ∧ True from hdn 3 r3); exact r2
     simp only [setE, he, h8, cj_t, cj_f, cjn_t, cjn_f, cb_t, cb_f]
     exact U (Mv (V rfl)) <| Nt <| weakS ⟨V rfl, V rfl, V rfl, V rfl, V rfl, V rfl, V rfl, V rfl, V rfl, V rfl, V rfl, V rfl, V rfl, Z⟩
    ·intro e hdn he hdp
     obtain ⟨h2, -⟩ := (show e 2 = true ∧ True from hdp)
     have h8 : e 8 = false := fls he fun q => by obtain ⟨r6, -, -, -, -, -, -, -, -, -, -⟩ := (show e 6 = true ∧ e 7 = true ∧ e 0 = true ∧ e 1 = true ∧ e 2 = true ∧ e 3 = true ∧ e 4 = true ∧ e 5 = true ∧ e 6 = true ∧ e 7 = true ∧ True from hdn 8 q); obtain ⟨-, r5, -⟩ := (show e 1 = true ∧ e 5 = true ∧ True from hdn 6 r6); obtain ⟨r4, -⟩ := (show e 4 = true ∧ True from hdn 5 r5); obtain ⟨r3, -⟩ := (show e 3 = true ∧ True from hdn 4 r4); exact r3
     cases hu7 : e 7
     ·simp only [setE, h2, he, h8, hu7, cj_t, cj_f, cjn_t, cjn_f, cb_t, cb_f]
      refine U (q_nilO (V rfl)) <| Nt <| We ?_ ?_
      ·exact ⟨V rfl, V rfl, V rfl, V rfl, V rfl, V rfl, V rfl, V rfl, V rfl, V rfl, V rfl, V rfl, V rfl, Z⟩
      ·exact ⟨⟨_, rfl, ⟨rfl, rfl, (An rfl)⟩⟩, ⟨_, rfl, ⟨rfl, rfl, (An rfl)⟩⟩, ⟨_, rfl, ⟨rfl, rfl, (An rfl)⟩⟩, ⟨_, rfl, rfl⟩, Z⟩
     ·simp only [setE, h2, he, h8, hu7, cj_t, cj_f, cjn_t, cjn_f, cb_t, cb_f]
      refine U (q_nilO (V rfl)) <| Nt <| We ?_ ?_
      ·exact ⟨V rfl, V rfl, V rfl, V rfl, V rfl, V rfl, V rfl, V rfl, V rfl, V rfl, V rfl, V rfl, V rfl, Z⟩
      ·exact ⟨⟨_, rfl, ⟨rfl, rfl, (An rfl)⟩⟩, ⟨_, rfl, ⟨rfl, rfl, (An rfl)⟩⟩, ⟨_, rfl, ⟨rfl, rfl, (An rfl)⟩⟩, ⟨_, rfl, rfl⟩, Z⟩
    ·intro e hdn he hdp
     obtain ⟨h3, -⟩ := (show e 3 = true ∧ True from hdp)
     obtain ⟨h2, -⟩ := (show e 2 = true ∧ True from hdn 3 h3)
     have h8 : e 8 = false := fls he fun q => by obtain ⟨r6, -, -, -, -, -, -, -, -, -, -⟩ := (show e 6 = true ∧ e 7 = true ∧ e 0 = true ∧ e 1 = true ∧ e 2 = true ∧ e 3 = true ∧ e 4 = true ∧ e 5 = true ∧ e 6 = true ∧ e 7 = true ∧ True from hdn 8 q); obtain ⟨-, r5, -⟩ := (show e 1 = true ∧ e 5 = true ∧ True from hdn 6 r6); obtain ⟨r4, -⟩ := (show e 4 = true ∧ True from hdn 5 r5); exact r4
     simp only [setE, h2, h3, he, h8, cj_t, cj_f, cjn_t, cjn_f, cb_t, cb_f]
     exact U (FlO _ _ (V rfl) Un61 rfl 0 Sz3) <| Nt <| weakS ⟨V rfl, V rfl, V rfl, V rfl, V rfl, V rfl, V rfl, V rfl, V rfl, V rfl, V rfl, V rfl, V rfl, Z⟩
    ·intro e hdn he hdp
     obtain ⟨h4, -⟩ := (show e 4 = true ∧ True from hdp)
     obtain ⟨h3, -⟩ := (show e 3 = true ∧ True from hdn 4 h4)
     obtain ⟨h2, -⟩ := (show e 2 = true ∧ True from hdn 3 h3)
     have h8 : e 8 = false := fls he fun q => by obtain ⟨r6, -, -, -, -, -, -, -, -, -, -⟩ := (show e 6 = true ∧ e 7 = true ∧ e 0 = true ∧ e 1 = true ∧ e 2 = true ∧ e 3 = true ∧ e 4 = true ∧ e 5 = true ∧ e 6 = true ∧ e 7 = true ∧ True from hdn 8 q); obtain ⟨-, r5, -⟩ := (show e 1 = true ∧ e 5 = true ∧ True from hdn 6 r6); exact r5
     cases hu7 : e 7
     ·simp only [setE, h2, h3, h4, he, h8, hu7, cj_t, cj_f, cjn_t, cjn_f, cb_t, cb_f]
      refine U (LdO (V rfl) rfl Ga3 (by decide)) <| Nt <| We ?_ ?_
      ·exact ⟨V rfl, V rfl, V rfl, V rfl, V rfl, V rfl, V rfl, V rfl, V rfl, V rfl, V rfl, V rfl, V rfl, Z⟩
      ·exact ⟨⟨_, rfl, ⟨rfl, rfl, (An rfl)⟩⟩, ⟨_, rfl, ⟨rfl, rfl, (An rfl)⟩⟩, ⟨_, rfl, ⟨rfl, rfl, (An rfl)⟩⟩, ⟨_, rfl, rfl⟩, Z⟩
     ·simp only [setE, h2, h3, h4, he, h8, hu7, cj_t, cj_f, cjn_t, cjn_f, cb_t, cb_f]
      refine U (LdO (V rfl) rfl Ga3 (by decide)) <| Nt <| We ?_ ?_
      ·exact ⟨V rfl, V rfl, V rfl, V rfl, V rfl, V rfl, V rfl, V rfl, V rfl, V rfl, V rfl, V rfl, V rfl, Z⟩
      ·exact ⟨⟨_, rfl, ⟨rfl, rfl, (An rfl)⟩⟩, ⟨_, rfl, ⟨rfl, rfl, (An rfl)⟩⟩, ⟨_, rfl, ⟨rfl, rfl, (An rfl)⟩⟩, ⟨_, rfl, rfl⟩, Z⟩
    ·intro e hdn he hdp
     obtain ⟨h1, h5, -⟩ := (show e 1 = true ∧ e 5 = true ∧ True from hdp)
     obtain ⟨h4, -⟩ := (show e 4 = true ∧ True from hdn 5 h5)
     obtain ⟨h3, -⟩ := (show e 3 = true ∧ True from hdn 4 h4)
     obtain ⟨h2, -⟩ := (show e 2 = true ∧ True from hdn 3 h3)
     have h8 : e 8 = false := fls he fun q => by obtain ⟨r6, -, -, -, -, -, -, -, -, -, -⟩ := (show e 6 = true ∧ e 7 = true ∧ e 0 = true ∧ e 1 = true ∧ e 2 = true ∧ e 3 = true ∧ e 4 = true ∧ e 5 = true ∧ e 6 = true ∧ e 7 = true ∧ True from hdn 8 q); exact r6
     simp only [setE, h1, h2, h3, h4, h5, he, h8, cj_t, cj_f, cjn_t, cjn_f, cb_t, cb_f]
     exact U (Bu [(0, iv (idxF roomB l)), (1, iv (((mkAt l (Int.toNat (idxF roomB l)) tag).getD (Int.toNat (idxF roomB l)) default).uses))] id (hdCell ⟨idxF roomB l, ((mkAt l (Int.toNat (idxF roomB l)) tag).getD (Int.toNat (idxF roomB l)) default).uses⟩) zero26 build26 (by exact ⟨⟨rfl, (V rfl), rfl⟩, ⟨rfl, (V rfl), rfl⟩, Z⟩) (by decide) ⟨⟨Z, rfl⟩, rfl⟩) <| Nt <| weakS ⟨V rfl, V rfl, V rfl, V rfl, V rfl, V rfl, V rfl, V rfl, V rfl, V rfl, V rfl, V rfl, V rfl, Z⟩
    ·intro e hdn he hdp
     obtain ⟨h0, -, -⟩ := (show e 0 = true ∧ e 0 = true ∧ True from hdp)
     have h8 : e 8 = false := fls he fun q => by obtain ⟨-, r7, -, -, -, -, -, -, -, -, -⟩ := (show e 6 = true ∧ e 7 = true ∧ e 0 = true ∧ e 1 = true ∧ e 2 = true ∧ e 3 = true ∧ e 4 = true ∧ e 5 = true ∧ e 6 = true ∧ e 7 = true ∧ True from hdn 8 q); exact r7
     simp only [setE, h0, he, h8, cj_t, cj_f, cjn_t, cjn_f, cb_t, cb_f]
     refine StA (V rfl) rfl (V rfl) Sz24 <| Nt <| We ?_ ?_
     ·exact ⟨V rfl, V rfl, V rfl, V rfl, V rfl, V rfl, V rfl, V rfl, V rfl, V rfl, V rfl, V rfl, V rfl, Z⟩
     ·exact ⟨⟨_, rfl, ⟨rfl, rfl, (An rfl)⟩⟩, ⟨_, rfl, ⟨rfl, rfl, (An rfl)⟩⟩, ⟨_, rfl, ⟨rfl, rfl, (An rfl)⟩⟩, ⟨_, rfl, rfl⟩, Z⟩
    ·intro e hdn he hdp
     obtain ⟨h6, h7, h0, h1, h2, h3, h4, h5, -, -, -⟩ := (show e 6 = true ∧ e 7 = true ∧ e 0 = true ∧ e 1 = true ∧ e 2 = true ∧ e 3 = true ∧ e 4 = true ∧ e 5 = true ∧ e 6 = true ∧ e 7 = true ∧ True from hdp)
     simp only [setE, h0, h1, h2, h3, h4, h5, h6, h7, he, cj_t, cj_f, cjn_t, cjn_f, cb_t, cb_f]
     refine StA (V rfl) rfl (V rfl) Sz26 <| Nt <| We ?_ ?_
     ·exact ⟨V rfl, V rfl, V rfl, V rfl, V rfl, V rfl, V rfl, V rfl, V rfl, V rfl, V rfl, V rfl, V rfl, Z⟩
     ·exact ⟨⟨_, rfl, ⟨rfl, rfl, (An rfl)⟩⟩, ⟨_, rfl, ⟨rfl, rfl, (An rfl)⟩⟩, ⟨_, rfl, ⟨rfl, rfl, (An rfl)⟩⟩, ⟨_, rfl, rfl⟩, Z⟩
    ·intro e hdn he hdp
     obtain ⟨h8, h0, h1, h2, h3, h4, h5, h6, h7, -, -⟩ := (show e 8 = true ∧ e 0 = true ∧ e 1 = true ∧ e 2 = true ∧ e 3 = true ∧ e 4 = true ∧ e 5 = true ∧ e 6 = true ∧ e 7 = true ∧ e 8 = true ∧ True from hdp)
     simp only [setE, h0, h1, h2, h3, h4, h5, h6, h7, h8, he, cj_t, cj_f, cjn_t, cjn_f, cb_t, cb_f]
     refine U (As K) <| Nt <| We ?_ ?_
     ·exact ⟨V rfl, V rfl, V rfl, V rfl, V rfl, V rfl, V rfl, V rfl, V rfl, V rfl, V rfl, V rfl, V rfl, Z⟩
     ·exact ⟨⟨_, rfl, ⟨rfl, rfl, (An rfl)⟩⟩, ⟨_, rfl, ⟨rfl, rfl, (An rfl)⟩⟩, ⟨_, rfl, ⟨rfl, rfl, (An rfl)⟩⟩, ⟨_, rfl, rfl⟩, Z⟩
    ·intro e he
     have h0 := he 0 (by decide)
     have h1 := he 1 (by decide)
     have h2 := he 2 (by decide)
     have h3 := he 3 (by decide)
     have h4 := he 4 (by decide)
     have h5 := he 5 (by decide)
     have h6 := he 6 (by decide)
     have h7 := he 7 (by decide)
     have h8 := he 8 (by decide)
     have h9 := he 9 (by decide)
     show Weak _ ⟨[(52, cj (e 0) (SV.agg 1 (fun zi => (fun zt => SV.renm (rn [(0, 4)]) ((cmpG [SV.own 0]) zt)) (0 + zi)))), (53, cj (e 1) (iv (idxF roomB l))), (54, cj (e 2) (SV.oe 4 8 (Int.toNat (idxF roomB l)) 0)), (55, cj (e 3) (SV.oe 4 8 (Int.toNat (idxF roomB l)) 0)), (56, cj (e 4) (SV.oe 4 8 (Int.toNat (idxF roomB l)) 1)), (57, cj (e 5) (iv (((mkAt l (Int.toNat (idxF roomB l)) tag).getD (Int.toNat (idxF roomB l)) default).uses))), (58, cj (e 6) (SV.agg 2 (hdCell ⟨idxF roomB l, ((mkAt l (Int.toNat (idxF roomB l)) tag).getD (Int.toNat (idxF roomB l)) default).uses⟩))), (6, cj (e 9) (iv (0))), (2, SV.bp 1 0), (4, SV.bp 2 0), (5, SV.bp 3 0), (8, iv (idxF roomB l)), (9, SV.oe 4 8 (Int.toNat (idxF roomB l)) 0)], (cb (e 7) (cb (e 8) [(1, Own.box 1 (fun zt => SV.renm (rn [(0, 4)]) ((cmpG [SV.own 0]) zt)) 24), (2, Own.box 1 (fun zi => (fun zt => SV.renm (rn [(0, 4)]) ((cmpG [SV.own 0]) zt)) (0 + zi)) 24), (3, Own.box 2 (hdCell ⟨idxF roomB l, ((mkAt l (Int.toNat (idxF roomB l)) tag).getD (Int.toNat (idxF roomB l)) default).uses⟩) 26), (4, ownOf ndCell 8 default (mkAt l (Int.toNat (idxF roomB l)) tag) 61)] [(1, Own.box 1 (fun zt => SV.renm (rn [(0, 4)]) ((cmpG [SV.own 0]) zt)) 24), (2, Own.box 1 (fun zi => (fun zt => SV.renm (rn [(0, 4)]) ((cmpG [SV.own 0]) zt)) (0 + zi)) 24), (3, Own.box 2 (cmpG [iv (0), iv (0)]) 26), (4, ownOf ndCell 8 default (mkAt l (Int.toNat (idxF roomB l)) tag) 61)]) (cb (e 8) [] [(1, Own.box 1 (fun zt => SV.renm (rn [(0, 4)]) ((cmpG [SV.own 0]) zt)) 24), (2, Own.box 1 (cmpG [SV.v (Value.slice none 0 0)]) 24), (3, Own.box 2 (cmpG [iv (0), iv (0)]) 26), (4, ownOf ndCell 8 default (mkAt l (Int.toNat (idxF roomB l)) tag) 61)]))⟩ _
     simp only [h0, h1, h2, h3, h4, h5, h6, h7, h8, h9]
     show Weak _ ⟨[(52, SV.agg 1 (fun zi => (fun zt => SV.renm (rn [(0, 4)]) ((cmpG [SV.own 0]) zt)) (0 + zi))), (53, iv (idxF roomB l)), (54, SV.oe 4 8 (Int.toNat (idxF roomB l)) 0), (55, SV.oe 4 8 (Int.toNat (idxF roomB l)) 0), (56, SV.oe 4 8 (Int.toNat (idxF roomB l)) 1), (57, iv (((mkAt l (Int.toNat (idxF roomB l)) tag).getD (Int.toNat (idxF roomB l)) default).uses)), (58, SV.agg 2 (hdCell ⟨idxF roomB l, ((mkAt l (Int.toNat (idxF roomB l)) tag).getD (Int.toNat (idxF roomB l)) default).uses⟩)), (6, iv (0)), (2, SV.bp 1 0), (4, SV.bp 2 0), (5, SV.bp 3 0), (8, iv (idxF roomB l)), (9, SV.oe 4 8 (Int.toNat (idxF roomB l)) 0)], [(1, Own.box 1 (fun zt => SV.renm (rn [(0, 4)]) ((cmpG [SV.own 0]) zt)) 24), (2, Own.box 1 (fun zi => (fun zt => SV.renm (rn [(0, 4)]) ((cmpG [SV.own 0]) zt)) (0 + zi)) 24), (3, Own.box 2 (hdCell ⟨idxF roomB l, ((mkAt l (Int.toNat (idxF roomB l)) tag).getD (Int.toNat (idxF roomB l)) default).uses⟩) 26), (4, ownOf ndCell 8 default (mkAt l (Int.toNat (idxF roomB l)) tag) 61)]⟩ _
     refine We ?_ ?_
     ·exact ⟨Va (V rfl) (An rfl), V rfl, V rfl, V rfl, V rfl, V rfl, Va (V rfl) (An rfl), V rfl, V rfl, V rfl, V rfl, V rfl, V rfl, Z⟩
     ·exact ⟨⟨_, rfl, ⟨rfl, rfl, (An rfl)⟩⟩, ⟨_, rfl, ⟨rfl, rfl, (An rfl)⟩⟩, ⟨_, rfl, ⟨rfl, rfl, (An rfl)⟩⟩, ⟨_, rfl, rfl⟩, Z⟩
    exact FzC 4 rfl <| Rx <| RR3 rfl (rv_aggI (g' := stG (mkAt l (Int.toNat (idxF roomB l)) tag)) (rv_cell (V rfl) rfl Ga24 Sz24) ⟨Z, Ir⟩) (rv_aggI (g' := hdCell ⟨idxF roomB l, ((mkAt l (Int.toNat (idxF roomB l)) tag).getD (Int.toNat (idxF roomB l)) default).uses⟩) (rv_cell (V rfl) rfl Ga26 Sz26) ⟨⟨Z, Ir⟩, Ir⟩) (rv_tmp (V rfl)) rfl rfl rfl (by show sv3 (SV.agg 1 (stG (mkAt l (Int.toNat (idxF roomB l)) tag))) (SV.agg 2 (hdCell ⟨idxF roomB l, ((mkAt l (Int.toNat (idxF roomB l)) tag).getD (Int.toNat (idxF roomB l)) default).uses⟩)) (iv (0)) = sv3 (SV.agg 1 (stG (mkSt l tag).1)) (SV.agg 2 (hdCell (mkSt l tag).2.1)) (iv (mkSt l tag).2.2); rw [mk_4 hc1s (by omega) hc3s, mkAt_uses hku])
theorem own_ct (l : List Nd) (hl : l.length ≤ 1759218604390) (hk : ∀ n ∈ l, n.kids.length ≤ 17592186043904) : CtM Try.prog 48 [SV.agg 1 (stG l)] [] (SV.agg 1 (cmpG [SV.own 0])) [(0, ownOf ndCell 8 default l 61)] := by
 refine CmO 26 Try.func48 rfl rfl rfl fun E => row_lenA 0 (V (s := 0) rfl) rfl rfl fun hl0_0 => Sq <| Rt <| BxA 1 (V rfl) rfl rfl <| Al 2 zero24 rfl rfl <| Nt <| Sq <| Rt <| Al 3 zero24 rfl rfl <| Nt <| Sq <| Sq <| Rq <| O (FlB _ _ (V rfl) Un24 rfl 0 Sz22) <| O (LdB (V rfl) rfl Ga22 (by decide)) <| O (Ln (V rfl) ts22) <| O (Mv K) <| Nq <| Bo <| Tc (turn_nilB 3 0 61 8 (rowG ndCell default []) 61 rfl rfl rfl) <| Lo (fun (i : Nat) => ⟨[(2, SV.bp 2 0), (3, SV.bp 3 0), (7, ndRow l), (8, iv ((l.length : Int))), (9, iv ((i : Int)))], [(2, Own.box 1 (cmpG [SV.v (Value.slice none 0 0)]) 24), (3, Own.box 1 (fun _ => SV.own 61) 24), (61, ownOf ndCell 8 default (l.take i) 61)]⟩) (fun (i : Nat) => i ≤ l.length) (fun (i : Nat) => l.length - i) 0 (by show 0 ≤ l.length; exact Nat.zero_le _) (We (ow := [(2, Own.box 1 (cmpG [SV.v (Value.slice none 0 0)]) 24), (3, Own.box 1 (fun _ => SV.own 61) 24), (61, ownOf ndCell 8 default (l.take 0) 61)]) (Vs rfl) (by exact ⟨⟨_, rfl, rfl, rfl, (An rfl)⟩, ⟨_, rfl, rfl, rfl, (An rfl)⟩, ⟨_, rfl, rfl⟩, Z⟩)) <| ?_
 ·rintro i hI1
  have hJ1 : i ≤ l.length := hI1
  have htk := List.length_take_le i l
  refine Sq <| Rq <| O (Lt (V rfl) (V rfl)) <| Nq <| Sq <| Cd (V rfl) (fun hc1 => ?_) (fun hc1 => ?_)
  ·have hc1s := hc1; try simp only [BL] at hc1s
   have hki := hk _ (mem_getD (d := default) (show i < l.length by omega))
   refine Sk <| Sq <| Bo <| Sq <| Rt <| U (IxN (i := i) (V rfl) (V rfl) ts22 te22 (by omega)) <| U (LdA (V rfl) Ga61 Sz61 (by decide)) <| Al 4 zero61 rfl rfl <| StA (V rfl) rfl (V rfl) Sz61 <| Nt <| Sq <| Rt <| t_bs0 5 (rowG inCell 0 []) Un33 Sz3 rfl <| U (FlB _ _ (V rfl) Un61 rfl 0 Sz33) <| U (LdB (V rfl) rfl Ga33 (by decide)) <| Ap 6 (rowG inCell 0 (([]) ++ ((l.getD i default).kids))) eo33 (V rfl) rfl (V rfl) rfl (len_app ([]) ((l.getD i default).kids)) (by first | (simp only [maxLen, List.length_append, List.length_set, List.length_nil, List.length_cons]; omega) | (simp only [maxLen]; omega)) (by first | (simp only [List.length_append, List.length_set, List.length_nil, List.length_cons]; omega) | (omega)) (app_typed (l := ([])) (m := ((l.getD i default).kids))) <| U (FlB _ _ (V rfl) Un61 rfl 0 Sz33) <| t_st1V (V rfl) rfl (V rfl) (one_own rfl) Sz33 (by decide) <| Nt <| Rt <| U (FlB _ _ (V rfl) Un24 rfl 0 Sz22) <| U (LdB (V rfl) rfl Ga22 (by decide)) <| U (LBA (V rfl) rfl Ga61 Sz61 (by decide)) <| FzT 6 rfl <| Uw (w_bs (n := 1) (zget := cmpG [bv (false), iv (0), iv (0), iv (0), iv (0), SV.v (Value.slice none 0 0), iv (0), bv (false)]) [_] (rowG ndCell default [⟨(l.getD i default).used, (l.getD i default).uses, (l.getD i default).tag, (l.getD i default).mark, (l.getD i default).par, ([]) ++ ((l.getD i default).kids), (l.getD i default).host, (l.getD i default).closed⟩]) Un22 Sz61 zero61 (by decide) rfl (by decide) ⟨⟨rfl, .inl (V rfl), rfl⟩, Z⟩ ⟨Z, ⟨⟨⟨⟨⟨⟨⟨⟨Z, rfl⟩, rfl⟩, rfl⟩, rfl⟩, rfl⟩, rfl⟩, rfl⟩, rfl⟩⟩) <| Ap 7 (rowG ndCell default ((l.take i) ++ ([⟨(l.getD i default).used, (l.getD i default).uses, (l.getD i default).tag, (l.getD i default).mark, (l.getD i default).par, ([]) ++ ((l.getD i default).kids), (l.getD i default).host, (l.getD i default).closed⟩]))) eo22 (V rfl) rfl (V rfl) rfl (len_app (l.take i) ([⟨(l.getD i default).used, (l.getD i default).uses, (l.getD i default).tag, (l.getD i default).mark, (l.getD i default).par, ([]) ++ ((l.getD i default).kids), (l.getD i default).host, (l.getD i default).closed⟩])) (by first | (simp only [maxLen, List.length_append, List.length_set, List.length_nil, List.length_cons]; omega) | (simp only [maxLen]; omega)) (by first | (simp only [List.length_append, List.length_set, List.length_nil, List.length_cons]; omega) | (omega)) (app_typed (l := (l.take i)) (m := ([⟨(l.getD i default).used, (l.getD i default).uses, (l.getD i default).tag, (l.getD i default).mark, (l.getD i default).par, ([]) ++ ((l.getD i default).kids), (l.getD i default).host, (l.getD i default).closed⟩]))) <| U (FlB _ _ (V rfl) Un24 rfl 0 Sz22) <| t_st1V (V rfl) rfl (V rfl) (one_own rfl) Sz22 (by decide) <| Nt <| Rq <| O (Ad (V rfl) K (by omega)) <| O (Mv (V rfl)) <| Nq <| k_mv 7 61 rfl rfl <| k_ownE 61 (l.take ((i + 1))) rfl (by exact (take_s (l := l) (i := i) default (by omega)).symm) <| Nx (i + 1) (by show (i + 1) ≤ l.length; first | omega | (simp; done) | (refine ⟨?_, ?_⟩ <;> first | omega | (simp; done))) (by show l.length - (i + 1) < l.length - i; omega) (We (ow := [(2, Own.box 1 (cmpG [SV.v (Value.slice none 0 0)]) 24), (3, Own.box 1 (fun _ => SV.own 61) 24), (61, ownOf ndCell 8 default (l.take ((i + 1))) 61)]) (Vs rfl) (by exact ⟨⟨_, rfl, rfl, rfl, (An rfl)⟩, ⟨_, rfl, rfl, rfl, (An rfl)⟩, ⟨_, rfl, rfl⟩, Z⟩))
  ·have hc1s := hc1; try simp only [BL] at hc1s
   exact Ex <| Sq <| Rt <| U (LBA (V rfl) rfl Ga24 Sz24 (by decide)) <| StA (V rfl) rfl (V rfl) Sz24 <| Nt <| c_mv 61 0 rfl rfl <| c_ownE 0 l rfl (by exact List.take_of_length_le (by omega)) <| Rx <| RM1 rfl (rv_aggI (g' := cmpG [SV.own 0]) (rv_cell (V rfl) rfl Ga24 Sz24) ⟨Z, Ir⟩) (by exact ⟨⟨_, rfl, rfl⟩, Z⟩) (by show SV.agg 1 (cmpG [SV.own 0]) = SV.agg 1 (cmpG [SV.own 0]); rfl)
end Go.Proofs.Ytmcdamcedemdiaa
namespace Go.Proofs.Ytmcdamcedemdiaa
open Go.RowKit Go.Eng
theorem st_kids {l : List Nd} (h : checkSt l = 0) {i : Nat} (hi : i < l.length) {c : Int} (hc : c ∈ (l.getD i default).kids) : 0 ≤ c ∧ c < (l.length : Int) ∧ (l.getD c.toNat default).used = true ∧ (l.getD c.toNat default).par = (i : Int) := by
  have h1 := (linksB_iff.1 (checkSt_links h) i hi).1
  simp only [link1, Bool.and_eq_true, List.all_eq_true] at h1
  have h2 := h1.1 c hc
  simp only [kidOk, Bool.and_eq_true, decide_eq_true_eq] at h2
  exact ⟨h2.1.1, ((nodesErr_at (checkSt_nodes h) hi).kids c hc).2, h2.1.2, h2.2⟩
theorem st_cnt {l : List Nd} (h : checkSt l = 0) {i : Nat} (hi : i < l.length) : kcnt l i ≤ 1 ∧ (0 < kcnt l i ↔ 0 ≤ (l.getD i default).par) ∧ rcnt l i ≤ 1 ∧ upN l l.length i < 0 := by
  have h3 := (linksB_iff.1 (checkSt_links h) i hi).2
  simp only [link2, Bool.and_eq_true, decide_eq_true_eq, beq_iff_eq, decide_eq_decide] at h3
  exact ⟨h3.1.1.1, h3.1.1.2, h3.1.2, h3.2⟩
theorem st_par {l : List Nd} (h : checkSt l = 0) {i : Nat} (hi : i < l.length) (hp : 0 ≤ (l.getD i default).par) : ∃ q : Nat, q < l.length ∧ (l.getD i default).par = (q : Int) ∧ (i : Int) ∈ (l.getD q default).kids := by
  have h3 := (st_cnt h hi).2.1.2 hp
  rw [kcnt, List.count_pos_iff, List.mem_flatMap] at h3
  obtain ⟨n, hn, hk⟩ := h3
  obtain ⟨q, hq, rfl⟩ := getD_of_mem default hn
  have := st_kids h hq hk
  rw [Int.toNat_natCast] at this
  exact ⟨q, hq, this.2.2.2, hk⟩
theorem len_of {l : List Nd} (h : l.length * 80 ≤ reachBytes ∧ l.length ≤ maxLen ∧ ∀ x ∈ l, okNd x) : l.length ≤ 1759218604390 := by have := h.1; unfold reachBytes at this; omega
theorem kids_of {l : List Nd} (h : l.length * 80 ≤ reachBytes ∧ l.length ≤ maxLen ∧ ∀ x ∈ l, okNd x) : ∀ n ∈ l, n.kids.length ≤ 17592186043904 := fun n hn => by
  have := (h.2.2 n hn).2.2.2.2.1.1; unfold reachBytes at this; omega
end Go.Proofs.Ytmcdamcedemdiaa
namespace Go.Proofs.Ytmcdamcedemdiaa
open Go.RowKit Go.Eng
theorem nodes_of {l : List Nd} (h : ∀ i, i < l.length → Node1 (l.length : Int) (l.getD i default)) : nodesErr l = 0 :=
  firstErr_zero _ 0 fun j _ hj => node1_err (h j (by omega))
theorem getD_sets {l : List Nd} {k q : Nat} {y : Nd} (h : k < l.length) : (l.set k y).getD q default = if q = k then y else l.getD q default := by
  by_cases e : q = k
  · subst e; rw [if_pos rfl, getD_setS h]
  · rw [if_neg e, List.getD_eq_getElem?_getD, List.getD_eq_getElem?_getD, List.getElem?_set_ne (Ne.symm e)]
theorem map_sets {α : Type} (f : Nd → α) {l : List Nd} {k : Nat} {y : Nd} (h : k < l.length) (e : f y = f (l.getD k default)) : (l.set k y).map f = l.map f := by
  rw [List.map_set]
  refine set_same (d := f default) (by simpa using h) ?_
  rw [e, List.getD_eq_getElem?_getD, List.getD_eq_getElem?_getD, List.getElem?_map]
  simp [h]
theorem keep {l : List Nd} {k : Nat} {y : Nd} (h : checkSt l = 0) (hk : k < l.length) (hy : Node1 (l.length : Int) y) (e1 : y.kids = (l.getD k default).kids) (e2 : y.par = (l.getD k default).par) (e3 : y.host = (l.getD k default).host)
    (hu : (l.getD k default).used = true → y.used = true ∨ ∀ q, q < l.length → ¬ (k : Int) ∈ (l.getD q default).kids ∧ ¬ (l.getD q default).host = (k : Int)) : checkSt (l.set k y) = 0 := by
  have hN := checkSt_nodes h
  have hL := linksB_iff.1 (checkSt_links h)
  have gk : ∀ q, ((l.set k y).getD q default).kids = (l.getD q default).kids := fun q => by rw [getD_sets hk]; split <;> simp_all
  have gp : ∀ q, ((l.set k y).getD q default).par = (l.getD q default).par := fun q => by rw [getD_sets hk]; split <;> simp_all
  have gh : ∀ q, ((l.set k y).getD q default).host = (l.getD q default).host := fun q => by rw [getD_sets hk]; split <;> simp_all
  have ga : ∀ q, above ((l.set k y).getD q default) = above (l.getD q default) := fun q => by unfold above; rw [gh, gp]
  have gu : ∀ m x, upN (l.set k y) m x = upN l m x := fun m x => by
    induction m with
    | zero => rfl
    | succ m ih => show up1 _ (upN _ m x) = up1 _ (upN l m x); rw [ih]; unfold up1; rw [ga]
  have c1 : ∀ x, kcnt (l.set k y) x = kcnt l x := fun x => by unfold kcnt; rw [List.flatMap_def, List.flatMap_def, map_sets Nd.kids hk e1]
  have c2 : ∀ x, rcnt (l.set k y) x = rcnt l x := fun x => by unfold rcnt; rw [map_sets Nd.host hk e3]
  have us : ∀ q, q < l.length → (l.getD q default).used = true → (q = k → ∃ r, r < l.length ∧ ((k : Int) ∈ (l.getD r default).kids ∨ (l.getD r default).host = (k : Int))) → ((l.set k y).getD q default).used = true := fun q hq hqu hw => by
    rw [getD_sets hk]
    split
    · rename_i e
      obtain ⟨r, hr, hr2⟩ := hw e
      rcases hu (e ▸ hqu) with a | a
      · exact a
      · exact hr2.elim (fun b => absurd b (a r hr).1) (fun b => absurd b (a r hr).2)
    · exact hqu
  refine checkSt_of (by rw [List.length_set]; exact checkSt_len h) (nodes_of fun i hi => ?_) (linksB_iff.2 fun i hi => ?_)
  · rw [List.length_set] at hi ⊢
    rw [getD_sets hk]
    split
    · exact hy
    · exact nodesErr_at hN hi
  · rw [List.length_set] at hi
    obtain ⟨l1, l2⟩ := hL i hi
    refine ⟨link1_of ?_ ?_, ?_⟩
    · rw [gk, List.all_eq_true]
      intro c hc
      obtain ⟨a, b, d, e⟩ := st_kids h hi hc
      simp only [kidOk, Bool.and_eq_true, decide_eq_true_eq]
      refine ⟨⟨a, us _ (by omega) d fun q => ⟨i, hi, .inl ?_⟩⟩, by rw [gp]; exact e⟩
      rw [show (k : Int) = c by omega]; exact hc
    · rw [gh]
      simp only [link1, Bool.and_eq_true, Bool.or_eq_true, decide_eq_true_eq] at l1
      rcases l1.2 with a | a
      · exact .inl a
      · by_cases hz : (l.getD i default).host < 0
        · exact .inl hz
        · have := (nodesErr_at hN hi).host
          exact .inr (us _ (by omega) a fun q => ⟨i, hi, .inr (by omega)⟩)
    · unfold link2 at l2 ⊢
      rw [c1, c2, gp, gu, List.length_set]; exact l2
end Go.Proofs.Ytmcdamcedemdiaa
namespace Go.Proofs.Ytmcdamcedemdiaa
open Go.RowKit Go.Eng
theorem fold_stuck {l : List Nd} {e : Int} (h : ¬ e = 0) : ∀ hs : List Hd, hs.foldl (stepH l) e = e
  | [] => rfl
  | x :: r => by rw [List.foldl_cons, stepH, if_neg h]; exact fold_stuck h r
theorem first_bad {l : List Nd} {hs : List Hd} {i : Nat} (hi : i < hs.length) (h : (hs.take i).foldl (stepH l) (checkSt l) = 0) (e : ¬ holdsSt l (hs.getD i default) = 0) : firstSt l hs = holdsSt l (hs.getD i default) := by
  have h1 : (hs.take (i + 1)).foldl (stepH l) (checkSt l) = holdsSt l (hs.getD i default) := by
    rw [foldl_take_s _ _ default _ _ hi, h, stepH, if_pos rfl]
  have h2 : firstSt l hs = (hs.take (i + 1) ++ hs.drop (i + 1)).foldl (stepH l) (checkSt l) := by rw [List.take_append_drop]; rfl
  rw [h2, List.foldl_append, h1]
  exact fold_stuck e _
theorem first_chk {l : List Nd} {hs : List Hd} (h : ¬ checkSt l = 0) : firstSt l hs = checkSt l := fold_stuck h hs
theorem first_ok {l : List Nd} {hs : List Hd} (h : firstSt l hs = 0) : checkSt l = 0 ∧ ∀ i, i < hs.length → holdsSt l (hs.getD i default) = 0 := by
  have hc : checkSt l = 0 := Classical.byContradiction fun q => by rw [first_chk q] at h; exact q h
  refine ⟨hc, fun i => ?_⟩
  have : ∀ i, i ≤ hs.length → (hs.take i).foldl (stepH l) (checkSt l) = 0 ∧ ∀ j, j < i → holdsSt l (hs.getD j default) = 0 := fun i => by
    induction i with
    | zero => intro _; exact ⟨hc, fun j hj => absurd hj (Nat.not_lt_zero j)⟩
    | succ i ih =>
      intro hi
      obtain ⟨a, b⟩ := ih (by omega)
      have e : holdsSt l (hs.getD i default) = 0 := Classical.byContradiction fun q => by rw [first_bad (by omega) a q] at h; exact q h
      refine ⟨by rw [foldl_take_s _ _ default _ _ (by omega), a, stepH, if_pos rfl, e], fun j hj => ?_⟩
      by_cases c : j = i
      · rw [c]; exact e
      · exact b j (by omega)
  exact fun hi => (this hs.length (Nat.le_refl _)).2 i hi
def underB (l : List Nd) (k top : Int) : Bool := (List.range (l.length + 1)).any fun m => decide (0 ≤ upN l m k) && decide (upN l m k = top)
theorem under_yes {l : List Nd} {k top : Int} {m : Nat} (hm : m ≤ l.length) (h0 : 0 ≤ upN l m k) (e : upN l m k = top) : underB l k top = true := by
  unfold underB; rw [List.any_eq_true]
  exact ⟨m, List.mem_range.2 (by omega), by rw [decide_eq_true h0, decide_eq_true e]; rfl⟩
theorem under_no {l : List Nd} {k top : Int} {m : Nat} (h0 : upN l m k < 0) (e : ∀ q, q < m → ¬ upN l q k = top) : underB l k top = false := by
  unfold underB; rw [List.any_eq_false]
  intro q _
  by_cases c : q < m
  · rw [decide_eq_false (e q c), Bool.and_false]; decide
  · have := upN_neg h0 (q - m)
    rw [show m + (q - m) = q by omega] at this
    rw [decide_eq_false (by omega), Bool.false_and]; decide
theorem up_lt {l : List Nd} (h : checkSt l = 0) {k : Int} (hk : -1 ≤ k ∧ k < (l.length : Int)) {m : Nat} (h0 : 0 ≤ upN l m k) : m < l.length := by
  apply Classical.byContradiction
  intro c
  have h1 : 0 ≤ upN l l.length k := upN_le (by omega) h0
  by_cases hk0 : k < 0
  · have := upN_neg (a := 0) (show upN l 0 k < 0 from hk0) l.length
    rw [Nat.zero_add] at this; omega
  · have := (st_cnt h (i := k.toNat) (by omega)).2.2.2
    rw [show ((k.toNat : Nat) : Int) = k by omega] at this
    omega
end Go.Proofs.Ytmcdamcedemdiaa
namespace Go.Proofs.Ytmcdamcedemdiaa
open Go.RowKit Go.Eng
theorem par_above {l : List Nd} (h : checkSt l = 0) {k : Int} (hk : 0 ≤ k ∧ k < (l.length : Int)) (hp : 0 ≤ (l.getD k.toNat default).par) : (l.getD k.toNat default).par = up1 l k := by
  have n1 := nodesErr_at (checkSt_nodes h) (i := k.toNat) (by omega)
  have : (l.getD k.toNat default).host < 0 := Classical.byContradiction fun q => by have := n1.one (by omega); omega
  unfold up1 above
  rw [if_neg (by omega), if_neg (by omega)]
end Go.Proofs.Ytmcdamcedemdiaa
namespace Go.Proofs.Ytmcdamcedemdiaa
open Go.RowKit Go.Eng
def cutSt (l : List Nd) (p k : Int) : List Nd := l.set p.toNat { (l.getD p.toNat default) with kids := (l.getD p.toNat default).kids.filter fun x => !decide (x = k) }
def outSt (l : List Nd) (k : Int) : List Nd :=
  if 0 ≤ (l.getD k.toNat default).par then (cutSt l (l.getD k.toNat default).par k).set k.toNat { ((cutSt l (l.getD k.toNat default).par k).getD k.toNat default) with par := -1 } else l
end Go.Proofs.Ytmcdamcedemdiaa
namespace Go.Proofs.Ytmcdamcedemdiaa
open Go.RowKit Go.Eng
theorem flat_congr {α β : Type} {f g : α → List β} : ∀ {l : List α}, (∀ x ∈ l, f x = g x) → l.flatMap f = l.flatMap g
  | [], _ => rfl
  | x :: r, h => by rw [List.flatMap_cons, List.flatMap_cons, h x (.head _), flat_congr fun y hy => h y (.tail _ hy)]
theorem st_n1 {l : List Nd} (h : checkSt l = 0) {k : Int} (hk : 0 ≤ k ∧ k < (l.length : Int)) : Node1 (l.length : Int) (l.getD k.toNat default) := nodesErr_at (checkSt_nodes h) (by omega)
theorem kid_up {l : List Nd} (h : checkSt l = 0) {k c : Int} (hk : 0 ≤ k ∧ k < (l.length : Int)) (hc : c ∈ (l.getD k.toNat default).kids) :
    (0 ≤ c ∧ c < (l.length : Int)) ∧ (l.getD c.toNat default).used = true ∧ (l.getD c.toNat default).par = k ∧ up1 l c = k := by
  obtain ⟨a, b, u, p⟩ := st_kids h (show k.toNat < l.length by omega) hc
  have p : (l.getD c.toNat default).par = k := by omega
  exact ⟨⟨a, b⟩, u, p, by rw [← par_above h ⟨a, b⟩ (by omega), p]⟩
theorem par_kid {l : List Nd} (h : checkSt l = 0) {x : Int} (hx : 0 ≤ x ∧ x < (l.length : Int)) (hp : 0 ≤ (l.getD x.toNat default).par) :
    (l.getD x.toNat default).par < (l.length : Int) ∧ x ∈ (l.getD (l.getD x.toNat default).par.toNat default).kids := by
  obtain ⟨q, hq, e, hm⟩ := st_par h (show x.toNat < l.length by omega) hp
  rw [e, Int.toNat_natCast, show x = ((x.toNat : Nat) : Int) by omega]
  exact ⟨by omega, hm⟩
theorem kids_nodup {l : List Nd} (h : checkSt l = 0) {i : Nat} (hi : i < l.length) : (l.getD i default).kids.Nodup := by
  rw [List.nodup_iff_count]
  intro c
  by_cases hc : c ∈ (l.getD i default).kids
  · obtain ⟨a, b, _, _⟩ := st_kids h hi hc
    have h3 := (st_cnt h (show c.toNat < l.length by omega)).1
    have h4 := count_flat_le c (mem_getD (d := default) hi)
    rw [kcnt, show ((c.toNat : Nat) : Int) = c by omega] at h3
    exact Nat.le_trans h4 h3
  · rw [List.count_eq_zero_of_not_mem hc]; exact Nat.zero_le _
theorem up_inj {l : List Nd} (h : checkSt l = 0) {x : Int} (hx : 0 ≤ x ∧ x < (l.length : Int)) {a b : Nat} (h0 : 0 ≤ upN l a x) (e : upN l a x = upN l b x) : a = b := by
  have key : ∀ {a b : Nat}, a < b → 0 ≤ upN l a x → upN l a x = upN l b x → False := fun hab h0 e => by
    have := up_lt h (show -1 ≤ x ∧ x < (l.length : Int) by omega) (up_cycle hab e h0 l.length)
    omega
  rcases Nat.lt_trichotomy a b with q | q | q
  · exact (key q h0 e).elim
  · exact q
  · exact (key q (e ▸ h0) e.symm).elim
def p1 (l : List Nd) (k : Int) : Int := if k < 0 then k else (l.getD k.toNat default).par
def pN (l : List Nd) : Nat → Int → Int
  | 0, k => k
  | n + 1, k => p1 l (pN l n k)
theorem pN_in {l : List Nd} (h : checkSt l = 0) {x : Int} (hx : -1 ≤ x ∧ x < (l.length : Int)) : ∀ m, -1 ≤ pN l m x ∧ pN l m x < (l.length : Int)
  | 0 => hx
  | m + 1 => by
    have hm := pN_in h hx m
    show -1 ≤ p1 l (pN l m x) ∧ p1 l (pN l m x) < (l.length : Int)
    unfold p1; split
    · exact hm
    · exact (st_n1 h (k := pN l m x) (by omega)).par
theorem pN_neg {l : List Nd} {x : Int} {m : Nat} (h : 0 ≤ pN l (m + 1) x) : 0 ≤ pN l m x := by
  have h : 0 ≤ p1 l (pN l m x) := h
  unfold p1 at h; split at h <;> omega
theorem pN_up {l : List Nd} (h : checkSt l = 0) {x : Int} (hx : 0 ≤ x ∧ x < (l.length : Int)) : ∀ {m : Nat}, 0 ≤ pN l m x → pN l m x = upN l m x
  | 0, _ => rfl
  | m + 1, h0 => by
    have hm := pN_neg h0
    have e := pN_up h hx hm
    have hi := pN_in h (show -1 ≤ x ∧ x < (l.length : Int) by omega) m
    have h0 : 0 ≤ p1 l (pN l m x) := h0
    show p1 l (pN l m x) = up1 l (upN l m x)
    rw [← e]
    unfold p1 at h0 ⊢
    rw [if_neg (by omega)] at h0 ⊢
    exact par_above h (by omega) h0
theorem pN_inj {l : List Nd} (h : checkSt l = 0) {x : Int} (hx : 0 ≤ x ∧ x < (l.length : Int)) {a b : Nat} (h0 : 0 ≤ pN l a x) (e : pN l a x = pN l b x) : a = b :=
  up_inj h hx (pN_up h hx h0 ▸ h0) (by rw [← pN_up h hx h0, ← pN_up h hx (e ▸ h0), e])
def ordN (l : List Nd) : Nat → Int → List Int
  | 0, _ => []
  | n + 1, k => k :: (l.getD k.toNat default).kids.flatMap (ordN l n)
def ordSt (l : List Nd) (k : Int) : List Int := ordN l l.length k
theorem ord_fuel {l : List Nd} (h : checkSt l = 0) : ∀ (n m : Nat) (k : Int), 0 ≤ k ∧ k < (l.length : Int) → 0 ≤ upN l m k → l.length ≤ m + n → ordN l (n + 1) k = ordN l n k
  | 0, m, k, hk, h0, hn => by have := up_lt h (show -1 ≤ k ∧ k < (l.length : Int) by omega) h0; omega
  | n + 1, m, k, hk, h0, hn => by
    show k :: _ = k :: _
    refine congrArg (k :: ·) (flat_congr fun c hc => ?_)
    obtain ⟨a, _, _, e⟩ := kid_up h hk hc
    refine ord_fuel h n (m + 1) c a ?_ (by omega)
    rw [Nat.add_comm, upN_add 1 c m]
    show 0 ≤ upN l m (up1 l c)
    rw [e]; exact h0
theorem ord_eq {l : List Nd} (h : checkSt l = 0) {k : Int} (hk : 0 ≤ k ∧ k < (l.length : Int)) : ordSt l k = k :: (l.getD k.toNat default).kids.flatMap (ordSt l) := by
  unfold ordSt
  obtain ⟨n, hn⟩ : ∃ n, l.length = n + 1 := ⟨l.length - 1, by omega⟩
  rw [hn]
  show k :: _ = k :: _
  refine congrArg (k :: ·) (flat_congr fun c hc => ?_)
  obtain ⟨a, _, _, e⟩ := kid_up h hk hc
  exact (ord_fuel h n 1 c a (by show 0 ≤ up1 l c; rw [e]; exact hk.1) (by omega)).symm
theorem ord_in {l : List Nd} (h : checkSt l = 0) : ∀ (n : Nat) (k : Int), 0 ≤ k ∧ k < (l.length : Int) → ∀ x ∈ ordN l n k, 0 ≤ x ∧ x < (l.length : Int)
  | 0, _, _, x, hx => (by cases hx)
  | n + 1, k, hk, x, hx => by
    rcases List.mem_cons.1 hx with rfl | hx
    · exact hk
    · obtain ⟨c, hc, hx⟩ := List.mem_flatMap.1 hx
      exact ord_in h n c (kid_up h hk hc).1 x hx
theorem ord_mem {l : List Nd} (h : checkSt l = 0) : ∀ (n : Nat) (k x : Int), 0 ≤ k ∧ k < (l.length : Int) → 0 ≤ x ∧ x < (l.length : Int) → (x ∈ ordN l n k ↔ ∃ m, m < n ∧ pN l m x = k)
  | 0, k, x, _, _ => ⟨fun q => absurd q List.not_mem_nil, fun ⟨m, hm, _⟩ => absurd hm (Nat.not_lt_zero _)⟩
  | n + 1, k, x, hk, hx => by
    show x ∈ k :: _ ↔ _
    rw [List.mem_cons, List.mem_flatMap]
    constructor
    · rintro (rfl | ⟨c, hc, hm⟩)
      · exact ⟨0, Nat.succ_pos _, rfl⟩
      · obtain ⟨a, _, p, _⟩ := kid_up h hk hc
        obtain ⟨m, hm, e⟩ := (ord_mem h n c x a hx).1 hm
        refine ⟨m + 1, by omega, ?_⟩
        show p1 l (pN l m x) = k
        rw [e, p1, if_neg (by omega), p]
    · rintro ⟨m, hm, e⟩
      cases m with
      | zero => exact .inl e
      | succ m =>
        have h0 := pN_neg (l := l) (x := x) (m := m) (by omega)
        have hi := pN_in h (show -1 ≤ x ∧ x < (l.length : Int) by omega) m
        have e : p1 l (pN l m x) = k := e
        rw [p1, if_neg (by omega)] at e
        have pk := par_kid h (x := pN l m x) (by omega) (by omega)
        rw [e] at pk
        exact .inr ⟨pN l m x, pk.2, (ord_mem h n _ x (by omega) hx).2 ⟨m, by omega, rfl⟩⟩
theorem ord_nodup {l : List Nd} (h : checkSt l = 0) : ∀ (n : Nat) (k : Int), 0 ≤ k ∧ k < (l.length : Int) → (ordN l n k).Nodup
  | 0, _, _ => List.Pairwise.nil
  | n + 1, k, hk => by
    show (k :: _).Nodup
    rw [List.nodup_cons]
    refine ⟨fun q => ?_, ?_⟩
    · obtain ⟨c, hc, hm⟩ := List.mem_flatMap.1 q
      obtain ⟨a, _, p, _⟩ := kid_up h hk hc
      obtain ⟨m, _, e⟩ := (ord_mem h n c k a hk).1 hm
      have e2 : pN l (m + 1) k = k := by show p1 l (pN l m k) = k; rw [e, p1, if_neg (by omega), p]
      have := pN_inj h hk (a := 0) (b := m + 1) hk.1 e2.symm
      omega
    · unfold List.Nodup
      rw [List.pairwise_flatMap]
      refine ⟨fun c hc => ord_nodup h n c (kid_up h hk hc).1, List.Pairwise.imp_of_mem ?_ (kids_nodup h (show k.toNat < l.length by omega))⟩
      intro c d hc hd hne x hx y hy e
      subst e
      obtain ⟨a, _, p, _⟩ := kid_up h hk hc
      obtain ⟨a', _, p', _⟩ := kid_up h hk hd
      have hxi := ord_in h n c a x hx
      obtain ⟨m, _, e⟩ := (ord_mem h n c x a hxi).1 hx
      obtain ⟨m', _, e'⟩ := (ord_mem h n d x a' hxi).1 hy
      have e2 : pN l (m + 1) x = k := by show p1 l (pN l m x) = k; rw [e, p1, if_neg (by omega), p]
      have e3 : pN l (m' + 1) x = k := by show p1 l (pN l m' x) = k; rw [e', p1, if_neg (by omega), p']
      have := pN_inj h hxi (a := m + 1) (b := m' + 1) (by omega) (by rw [e2, e3])
      have : m = m' := by omega
      subst this
      exact hne (e.symm.trans e')
theorem ord_len {l : List Nd} (h : checkSt l = 0) {k : Int} (hk : 0 ≤ k ∧ k < (l.length : Int)) : (ordSt l k).length ≤ l.length :=
  nodup_bound _ _ (ord_nodup h _ k hk) (ord_in h _ k hk)
end Go.Proofs.Ytmcdamcedemdiaa
namespace Go.Proofs.Ytmcdamcedemdiaa
open Go.RowKit Go.Eng
structure RightSt (l : List Nd) : Prop where
  len : l.length ≤ 24
  node : ∀ k : Int, 0 ≤ k ∧ k < (l.length : Int) → Node1 (l.length : Int) (l.getD k.toNat default)
  kid : ∀ k : Int, 0 ≤ k ∧ k < (l.length : Int) → ∀ c ∈ (l.getD k.toNat default).kids, 0 ≤ c ∧ (l.getD c.toNat default).used = true ∧ (l.getD c.toNat default).par = k
  nodup : ∀ k : Int, 0 ≤ k ∧ k < (l.length : Int) → (l.getD k.toNat default).kids.Nodup
  par : ∀ k : Int, 0 ≤ k ∧ k < (l.length : Int) → 0 ≤ (l.getD k.toNat default).par → k ∈ (l.getD (l.getD k.toNat default).par.toNat default).kids
  host : ∀ k : Int, 0 ≤ k ∧ k < (l.length : Int) → 0 ≤ (l.getD k.toNat default).host → (l.getD (l.getD k.toNat default).host.toNat default).used = true
  one : ∀ k j : Int, 0 ≤ k ∧ k < (l.length : Int) → 0 ≤ j ∧ j < (l.length : Int) → 0 ≤ (l.getD k.toNat default).host → (l.getD k.toNat default).host = (l.getD j.toNat default).host → k = j
  rank : ∃ r : Int → Nat, ∀ k : Int, 0 ≤ k ∧ k < (l.length : Int) → 0 ≤ above (l.getD k.toNat default) → r (above (l.getD k.toNat default)) < r k
theorem nodup_flat {l : List Nd} (h1 : ∀ n ∈ l, n.kids.Nodup) (h2 : ∀ i j, i < j → j < l.length → ∀ c, c ∈ (l.getD i default).kids → ¬ c ∈ (l.getD j default).kids) : (l.flatMap Nd.kids).Nodup := by
  unfold List.Nodup
  rw [List.pairwise_flatMap]
  refine ⟨h1, ?_⟩
  rw [List.pairwise_iff_getElem]
  intro i j hi hj hij x hx y hy e
  subst e
  refine h2 i j hij hj x ?_ ?_
  · rw [getD_lt hi]; exact hx
  · rw [getD_lt hj]; exact hy
theorem cnt_host {l : List Nd} {k : Int} (hk : 0 ≤ k) (h : ∀ i j, i < l.length → j < l.length → (l.getD i default).host = k → (l.getD j default).host = k → i = j) : rcnt l k ≤ 1 := by
  unfold rcnt
  rw [List.count_eq_countP, List.countP_map, List.countP_eq_length_filter]
  have hnd : ((List.range l.length).filter fun i => decide ((l.getD i default).host = k)).length ≤ 1 := by
    generalize hL : ((List.range l.length).filter fun i => decide ((l.getD i default).host = k)) = L
    have hnd : L.Nodup := hL ▸ List.nodup_range.filter _
    have hm : ∀ x ∈ L, x < l.length ∧ (l.getD x default).host = k := fun x hx => by
      rw [← hL, List.mem_filter, List.mem_range, decide_eq_true_eq] at hx; exact hx
    match L, hnd, hm with
    | [], _, _ => exact Nat.zero_le _
    | [_], _, _ => exact Nat.le_refl _
    | a :: b :: r, hnd, hm =>
      have ha := hm a (by simp); have hb := hm b (by simp)
      have := h a b ha.1 hb.1 ha.2 hb.2
      subst this
      simp at hnd
  refine Nat.le_trans (Nat.le_of_eq ?_) hnd
  have e : l = (List.range l.length).map fun i => l.getD i default := by
    refine List.ext_getElem (by simp) fun i h1 h2 => ?_
    rw [List.getElem_map, List.getElem_range, getD_lt h1]
  rw [← List.countP_eq_length_filter, ← List.countP_eq_length_filter]
  conv => lhs; rw [e]
  rw [List.countP_map]
  refine List.countP_congr fun x _ => ?_
  simp
theorem right_of {l : List Nd} (h : RightSt l) : checkSt l = 0 := by
  have hat : ∀ i, i < l.length → (0 : Int) ≤ (i : Int) ∧ (i : Int) < (l.length : Int) := fun i hi => by omega
  have hN : nodesErr l = 0 := nodes_of fun i hi => h.node i (hat i hi)
  have hnd : (l.flatMap Nd.kids).Nodup := nodup_flat (fun n hn => by
      obtain ⟨i, hi, rfl⟩ := getD_of_mem default hn
      exact h.nodup i (hat i hi)) fun i j hij hj c hc hc2 => by
    have a := (h.kid i (hat i (by omega)) c hc).2.2
    have b := (h.kid j (hat j hj) c hc2).2.2
    omega
  refine checkSt_of h.len hN (linksB_iff.2 fun i hi => ⟨link1_of ?_ ?_, ?_⟩)
  · rw [List.all_eq_true]
    intro c hc
    obtain ⟨a, b, d⟩ := h.kid i (hat i hi) c hc
    simp only [kidOk, Bool.and_eq_true, decide_eq_true_eq]
    exact ⟨⟨a, b⟩, d⟩
  · by_cases q : (l.getD i default).host < 0
    · exact .inl q
    · exact .inr (h.host i (hat i hi) (Int.not_lt.1 q))
  · unfold link2
    have k1 : kcnt l i ≤ 1 := List.nodup_iff_count.1 hnd _
    have k2 : 0 < kcnt l i ↔ 0 ≤ (l.getD i default).par := by
      rw [kcnt, List.count_pos_iff, List.mem_flatMap]
      constructor
      · rintro ⟨n, hn, hc⟩
        obtain ⟨q, hq, rfl⟩ := getD_of_mem default hn
        have := (h.kid q (hat q hq) _ hc).2.2
        rw [Int.toNat_natCast] at this; omega
      · intro hp
        have a := h.par i (hat i hi) hp
        rw [Int.toNat_natCast] at a
        have b := (h.node i (hat i hi)).par
        rw [Int.toNat_natCast] at b
        exact ⟨_, mem_getD (d := default) (by omega), a⟩
    have k3 : rcnt l i ≤ 1 := cnt_host (by omega) fun a b ha hb ea eb => by
      have := h.one a b (hat a ha) (hat b hb) (by rw [Int.toNat_natCast, ea]; omega) (by rw [Int.toNat_natCast, Int.toNat_natCast, ea, eb])
      omega
    have k4 : upN l l.length i < 0 := by
      apply Classical.byContradiction
      intro q
      have h0 := up_pig hN (i := (i : Int)) (by omega) (Int.not_lt.1 q)
      obtain ⟨r, hr⟩ := h.rank
      have key : ∀ m : Nat, r (upN l m i) + m ≤ r i := fun m => by
        induction m with
        | zero => exact Nat.le_refl _
        | succ m ih =>
          have a := h0 m; have b := h0 (m + 1)
          have c := upN_in hN (i := (i : Int)) (by omega) m
          have e : upN l (m + 1) i = above (l.getD (upN l m i).toNat default) := by
            show up1 l (upN l m i) = _
            rw [up1, if_neg (by omega)]
          rw [e] at b ⊢
          have := hr (upN l m i) ⟨a, c.2⟩ b
          omega
      have := key (r i + 1)
      omega
    rw [decide_eq_true k1, decide_eq_true k3, decide_eq_true k4, Bool.and_true, Bool.and_true, Bool.true_and]
    rw [beq_iff_eq, decide_eq_decide]; exact k2
theorem lineN_neg {l : List Nd} {k : Int} (hk : k < 0) : ∀ n, lineN l n k = []
  | 0 => rfl
  | n + 1 => by rw [lineN, if_neg (by omega)]
theorem lineN_s {l : List Nd} (h : checkSt l = 0) : ∀ (n m : Nat) (x k : Int), -1 ≤ x ∧ x < (l.length : Int) → k = upN l m x → l.length ≤ m + n → lineN l (n + 1) k = lineN l n k
  | 0, m, x, k, hx, e, hn => by
    have : k < 0 := Classical.byContradiction fun q => by have := up_lt h hx (m := m) (by omega); omega
    rw [lineN_neg this, lineN_neg this]
  | n + 1, m, x, k, hx, e, hn => by
    have hk := upN_in (checkSt_nodes h) hx m
    by_cases q : 0 ≤ k
    · have hk2 : 0 ≤ k ∧ k < (l.length : Int) := by omega
      have e2 : runder (l.getD k.toNat default) = upN l (m + 1) x := by
        rw [runder_above (checkSt_nodes h) (by omega)]
        show _ = up1 l (upN l m x)
        rw [← e, up1, if_neg (by omega)]
      show (if _ then _ else _) = if _ then _ else _
      rw [if_pos hk2, if_pos hk2, lineN_s h n (m + 1) x _ hx e2 (by omega)]
    · rw [lineN_neg (by omega), lineN_neg (by omega)]
theorem line_neg {l : List Nd} {k : Int} (hk : k < 0) : line l k = [] := lineN_neg hk _
theorem line_eq {l : List Nd} (h : checkSt l = 0) {k : Int} (hk : 0 ≤ k ∧ k < (l.length : Int)) : line l k = k :: line l (above (l.getD k.toNat default)) := by
  unfold line
  rw [lineN, if_pos hk, runder_above (checkSt_nodes h) hk]
  rw [lineN_s h l.length 1 k _ (by omega) (by show _ = up1 l k; rw [up1, if_neg (by omega)]) (by omega)]
def dpt (l : List Nd) (k : Int) : Nat := (line l k).length
theorem dpt_eq {l : List Nd} (h : checkSt l = 0) {k : Int} (hk : 0 ≤ k ∧ k < (l.length : Int)) : dpt l k = dpt l (above (l.getD k.toNat default)) + 1 := by
  unfold dpt; rw [line_eq h hk]; rfl
theorem right_to {l : List Nd} (h : checkSt l = 0) : RightSt l := {
  len := checkSt_len h,
  node := fun k hk => st_n1 h hk,
  kid := fun k hk c hc => by
    obtain ⟨a, b, d, _⟩ := kid_up h hk hc
    exact ⟨a.1, b, d⟩,
  nodup := fun k hk => kids_nodup h (by omega),
  par := fun k hk hp => (par_kid h hk hp).2,
  host := fun k hk hp => by
    have l1 := (linksB_iff.1 (checkSt_links h) k.toNat (by omega)).1
    simp only [link1, Bool.and_eq_true, Bool.or_eq_true, decide_eq_true_eq] at l1
    exact l1.2.resolve_left (by omega),
  one := fun k j hk hj h0 e => by
    have hh := (st_n1 h hk).host
    have c := (st_cnt h (i := (l.getD k.toNat default).host.toNat) (by omega)).2.2.1
    rw [show (((l.getD k.toNat default).host.toNat : Nat) : Int) = (l.getD k.toNat default).host by omega] at c
    apply Classical.byContradiction
    intro hne
    have key : ∀ {a b : Nat}, a < b → b < l.length → (l.getD a default).host = (l.getD b default).host → 0 ≤ (l.getD a default).host → ¬ rcnt l (l.getD a default).host ≤ 1 := fun {a b} hab hb e h0 c => by
      unfold rcnt at c
      have h1 : l = l.take b ++ l.drop b := (List.take_append_drop b l).symm
      have m1 : (l.getD a default).host ∈ (l.take b).map Nd.host := by
        refine List.mem_map.2 ⟨l.getD a default, ?_, rfl⟩
        rw [getD_lt (show a < l.length by omega)]
        exact List.mem_take_iff_getElem.2 ⟨a, by omega, rfl⟩
      have m2 : (l.getD a default).host ∈ (l.drop b).map Nd.host := by
        refine List.mem_map.2 ⟨l.getD b default, ?_, e.symm⟩
        rw [getD_lt hb, List.drop_eq_getElem_cons hb]
        exact .head _
      rw [h1, List.map_append, List.count_append, ← h1] at c
      have := List.count_pos_iff.2 m1
      have := List.count_pos_iff.2 m2
      omega
    rcases Nat.lt_trichotomy k.toNat j.toNat with q | q | q
    · exact key q (by omega) e h0 c
    · omega
    · exact key q (by omega) e.symm (e ▸ h0) (e ▸ c),
  rank := ⟨dpt l, fun k hk _ => by rw [dpt_eq h hk]; exact Nat.lt_succ_self _⟩ }
theorem getD_setI {l : List Nd} {k q : Int} {y : Nd} (hk : 0 ≤ k ∧ k < (l.length : Int)) (hq : 0 ≤ q) : (l.set k.toNat y).getD q.toNat default = if q = k then y else l.getD q.toNat default := by
  rw [getD_sets (by omega)]
  by_cases e : q = k
  · rw [if_pos e, if_pos (by rw [e])]
  · rw [if_neg e, if_neg (by omega)]
theorem cut_len (l : List Nd) (p k : Int) : (cutSt l p k).length = l.length := List.length_set
theorem out_len (l : List Nd) (k : Int) : (outSt l k).length = l.length := by
  unfold outSt; split
  · rw [List.length_set, cut_len]
  · rfl
theorem out_at {l : List Nd} (h : checkSt l = 0) {k q : Int} (hk : 0 ≤ k ∧ k < (l.length : Int)) (hq : 0 ≤ q ∧ q < (l.length : Int)) :
    (outSt l k).getD q.toNat default = { (l.getD q.toNat default) with kids := (l.getD q.toNat default).kids.filter (fun x => !decide (x = k)), par := if q = k then -1 else (l.getD q.toNat default).par } := by
  have nk : ∀ q : Int, 0 ≤ q ∧ q < (l.length : Int) → q ≠ (l.getD k.toNat default).par → (l.getD q.toNat default).kids.filter (fun x => !decide (x = k)) = (l.getD q.toNat default).kids := fun q hq hne => by
    rw [List.filter_eq_self]
    intro x hx
    have := (kid_up h hq hx).2.2.1
    simp only [Bool.not_eq_true', decide_eq_false_iff_not]
    rintro rfl
    exact hne this.symm
  unfold outSt
  split
  · rename_i h0
    have hp := (par_kid h hk h0).1
    have hne : (l.getD k.toNat default).par ≠ k := fun e => by
      have a := par_above h hk h0
      have b := up_inj h hk (a := 0) (b := 1) hk.1 (show k = up1 l k by rw [← a, e])
      omega
    rw [getD_setI (by rw [cut_len]; exact hk) hq.1]
    unfold cutSt
    by_cases e : q = k
    · subst e
      rw [if_pos rfl, getD_setI ⟨h0, hp⟩ hq.1, if_neg (Ne.symm hne), if_pos rfl, nk q hq (Ne.symm hne)]
    · rw [if_neg e, getD_setI ⟨h0, hp⟩ hq.1, if_neg e]
      by_cases e2 : q = (l.getD k.toNat default).par
      · rw [if_pos e2, ← e2]
      · rw [if_neg e2, nk q hq e2]
  · rename_i h0
    have hp := (st_n1 h hk).par
    rw [nk q hq (by omega)]
    by_cases e : q = k
    · subst e; rw [if_pos rfl, show (-1 : Int) = (l.getD q.toNat default).par by omega]
    · rw [if_neg e]
theorem filter_nodup {ks : List Int} {k : Int} (h : ks.Nodup) : (ks.filter fun x => !decide (x = k)).Nodup := h.filter _
theorem mem_cut {ks : List Int} {k c : Int} : c ∈ ks.filter (fun x => !decide (x = k)) ↔ c ∈ ks ∧ c ≠ k := by
  rw [List.mem_filter, Bool.not_eq_true', decide_eq_false_iff_not]
theorem out_right {l : List Nd} (h : checkSt l = 0) {k : Int} (hk : 0 ≤ k ∧ k < (l.length : Int)) (hu : (l.getD k.toNat default).used = true) : RightSt (outSt l k) := by
  have R := right_to h
  have hl := out_len l k
  have at_ := fun {q : Int} (hq : 0 ≤ q ∧ q < (l.length : Int)) => out_at h hk hq
  have ab : ∀ q : Int, 0 ≤ q ∧ q < (l.length : Int) → above ((outSt l k).getD q.toNat default) = above (l.getD q.toNat default) ∨ above ((outSt l k).getD q.toNat default) < 0 := fun q hq => by
    rw [at_ hq]; unfold above
    by_cases e : q = k
    · subst e
      by_cases e2 : 0 ≤ (l.getD q.toNat default).host
      · exact .inl (by simp only [if_pos e2])
      · exact .inr (by simp only [if_neg e2, if_true]; exact of_decide_eq_true rfl)
    · exact .inl (by simp only [if_neg e])
  refine ⟨by rw [hl]; exact R.len, fun q hq => ?_, fun q hq c hc => ?_, fun q hq => ?_, fun q hq hp => ?_, fun q hq hp => ?_, fun a b ha hb h0 e => ?_, ?_⟩
  · rw [hl] at hq ⊢
    have n1 := R.node q hq
    rw [at_ hq]
    refine ⟨n1.uses, n1.tag, n1.mark, fun c hc => n1.kids c (mem_cut.1 hc).1, ?_, n1.host, fun hf => ?_, n1.use, n1.closed, fun h0 => ?_⟩
    · show -1 ≤ (if q = k then -1 else _) ∧ (if q = k then -1 else _) < _
      split
      · omega
      · exact n1.par
    · obtain ⟨a, b, c, d, e, f⟩ := n1.free hf
      refine ⟨a, b, ?_, d, e, ?_⟩
      · show (if q = k then -1 else _) = -1
        split
        · rfl
        · exact c
      · show (l.getD q.toNat default).kids.filter _ = []
        rw [f]; rfl
    · show (if q = k then -1 else _) = -1
      split
      · rfl
      · exact n1.one h0
  · rw [hl] at hq
    rw [at_ hq] at hc
    obtain ⟨hc, hne⟩ := mem_cut.1 hc
    obtain ⟨a, b, d, _⟩ := kid_up h hq hc
    rw [at_ a]
    exact ⟨a.1, b, by show (if c = k then -1 else _) = q; rw [if_neg hne]; exact d⟩
  · rw [hl] at hq
    rw [at_ hq]
    exact filter_nodup (R.nodup q hq)
  · rw [hl] at hq
    rw [at_ hq] at hp ⊢
    have hp : 0 ≤ if q = k then -1 else (l.getD q.toNat default).par := hp
    have hne : q ≠ k := fun e => by rw [if_pos e] at hp; omega
    rw [if_neg hne] at hp
    show q ∈ ((outSt l k).getD (if q = k then -1 else (l.getD q.toNat default).par).toNat default).kids
    rw [if_neg hne, at_ ⟨hp, (R.node q hq).par.2⟩]
    exact mem_cut.2 ⟨R.par q hq hp, hne⟩
  · rw [hl] at hq
    rw [at_ hq] at hp ⊢
    have hp : 0 ≤ (l.getD q.toNat default).host := hp
    show ((outSt l k).getD (l.getD q.toNat default).host.toNat default).used = true
    rw [at_ ⟨hp, (R.node q hq).host.2⟩]
    exact R.host q hq hp
  · rw [hl] at ha hb
    rw [at_ ha] at h0 e; rw [at_ hb] at e
    exact R.one a b ha hb h0 e
  · refine ⟨dpt l, fun q hq h0 => ?_⟩
    rw [hl] at hq
    rcases ab q hq with e | e
    · rw [e, dpt_eq h hq]; exact Nat.lt_succ_self _
    · omega
end Go.Proofs.Ytmcdamcedemdiaa
namespace Go.Proofs.Ytmcdamcedemdiaa
open Go.RowKit Go.Eng
theorem under_iff {l : List Nd} (h : checkSt l = 0) {k top : Int} (hk : -1 ≤ k ∧ k < (l.length : Int)) (ht : 0 ≤ top) : underB l k top = true ↔ ∃ m, upN l m k = top := by
  constructor
  · intro q
    unfold underB at q
    rw [List.any_eq_true] at q
    obtain ⟨m, _, e⟩ := q
    simp only [Bool.and_eq_true, decide_eq_true_eq] at e
    exact ⟨m, e.2⟩
  · rintro ⟨m, e⟩
    exact under_yes (Nat.le_of_lt (up_lt h hk (m := m) (by omega))) (by omega) e
theorem under_f {l : List Nd} (h : checkSt l = 0) {k top : Int} (hk : -1 ≤ k ∧ k < (l.length : Int)) (ht : 0 ≤ top) (q : underB l k top = false) (m : Nat) : upN l m k ≠ top := fun e => by
  rw [(under_iff h hk ht).2 ⟨m, e⟩] at q; cases q
def insAt (ks : List Int) (i : Nat) (c : Int) : List Int := ks.take i ++ [c] ++ ks.drop i
def putK (m : List Nd) (p c : Int) (i : Nat) : List Nd := m.set p.toNat { (m.getD p.toNat default) with kids := insAt (m.getD p.toNat default).kids i c }
def putSt (m : List Nd) (p c : Int) (i : Nat) : List Nd := (putK m p c i).set c.toNat { ((putK m p c i).getD c.toNat default) with par := p }
theorem putK_len (m : List Nd) (p c : Int) (i : Nat) : (putK m p c i).length = m.length := List.length_set
theorem put_len (m : List Nd) (p c : Int) (i : Nat) : (putSt m p c i).length = m.length := by unfold putSt; rw [List.length_set, putK_len]
theorem put_at {m : List Nd} {p c q : Int} {i : Nat} (hp : 0 ≤ p ∧ p < (m.length : Int)) (hc : 0 ≤ c ∧ c < (m.length : Int)) (hq : 0 ≤ q) :
    (putSt m p c i).getD q.toNat default = { (m.getD q.toNat default) with kids := if q = p then insAt (m.getD q.toNat default).kids i c else (m.getD q.toNat default).kids, par := if q = c then p else (m.getD q.toNat default).par } := by
  have k : ∀ q : Int, 0 ≤ q → (putK m p c i).getD q.toNat default = { (m.getD q.toNat default) with kids := if q = p then insAt (m.getD q.toNat default).kids i c else (m.getD q.toNat default).kids } := fun q hq => by
    unfold putK
    rw [getD_setI hp hq]
    by_cases e : q = p
    · subst e; rw [if_pos rfl, if_pos rfl]
    · rw [if_neg e, if_neg e]
  unfold putSt
  rw [getD_setI (by rw [putK_len]; exact hc) hq]
  by_cases e : q = c
  · subst e; rw [if_pos rfl, k q hq, if_pos rfl]
  · rw [if_neg e, k q hq, if_neg e]
end Go.Proofs.Ytmcdamcedemdiaa
namespace Go.Proofs.Ytmcdamcedemdiaa
open Go.RowKit Go.Eng
theorem par_ne {l : List Nd} (h : checkSt l = 0) {k : Int} (hk : 0 ≤ k ∧ k < (l.length : Int)) (h0 : 0 ≤ (l.getD k.toNat default).par) : (l.getD k.toNat default).par ≠ k := fun e => by
  have a := par_above h hk h0
  have b := up_inj h hk (a := 0) (b := 1) hk.1 (show k = up1 l k by rw [← a, e])
  omega
theorem out_alt {l : List Nd} {k : Int} (h : checkSt l = 0) (hk : 0 ≤ k ∧ k < (l.length : Int)) (h0 : 0 ≤ (l.getD k.toNat default).par) :
    (l.set k.toNat { (l.getD k.toNat default) with par := -1 }).set (l.getD k.toNat default).par.toNat { ((l.set k.toNat { (l.getD k.toNat default) with par := -1 }).getD (l.getD k.toNat default).par.toNat default) with kids := (l.getD (l.getD k.toNat default).par.toNat default).kids.filter fun x => !decide (x = k) } = outSt l k := by
  have hp := (par_kid h hk h0).1
  have hne := par_ne h hk h0
  unfold outSt
  rw [if_pos h0]
  unfold cutSt
  rw [getD_setI hk h0, if_neg hne, getD_setI ⟨h0, hp⟩ hk.1, if_neg (Ne.symm hne)]
  exact List.set_comm _ _ (by omega)
end Go.Proofs.Ytmcdamcedemdiaa
namespace Go.Proofs.Ytmcdamcedemdiaa
open Go.RowKit Go.Eng
theorem outK_ct (x k : Int) : Ct Try.prog 150 [iv (x), elB [iv (k)] 0] (bv (decide (x = k))) := by
 exact CtO 7 Try.func150 rfl rfl rfl fun E => Sq <| Rq <| O (As K) <| Nq <| Sq <| Rq <| O (Mv (V rfl)) <| O (Ld (V rfl) Ga3 (by show 0 < 1; decide)) <| O (Ql (V rfl) (V rfl)) <| O (As (V rfl)) <| Nq <| Rx <| R1 rfl (V rfl) rfl (by show bv (decide (x = k)) = bv (decide (x = k)); rfl)
theorem out_ct (l : List Nd) (k : Int) (hc : checkSt l = 0) (hk : 0 ≤ k ∧ k < (l.length : Int)) : CtM Try.prog 127 [SV.bp 1000 0, iv (k)] [(1000, Own.box 1 (cmpG [SV.own 1001]) 24), (1001, urowOf ndCell 8 default l 61 5 Nd.kids inCell 1 0 3 l.length none)] (sv0) [(1000, Own.box 1 (cmpG [SV.own 0]) 24), (0, urowOf ndCell 8 default (outSt l k) 61 5 Nd.kids inCell 1 0 3 l.length none)] := by
 refine CmO 39 Try.func127 rfl rfl rfl fun E => c_mv 1001 1 rfl rfl <| Sq <| Rt <| Bx1 2 (V rfl) rfl rfl rfl <| Nt <| Sq <| c_frzB 2 [iv (k)] rfl rfl ⟨Z, rfl⟩ rfl <| Rqd (by kernel_rfl) (by kernel_rfl) <| O (Mv (V rfl)) <| O (q_nilB (V rfl)) <| O (FlB _ _ (V rfl) Un24 rfl 0 Sz22) <| O (LdB (V rfl) rfl Ga22 (by decide)) <| O (Ld (V rfl) Ga3 (by show 0 < 1; decide)) <| O (q_idxU (V rfl) rfl (V rfl) ts22 te22 (by omega) (by first | omega | (simp only [List.length_set]; omega))) <| O (FlO _ _ (V rfl) Un61 rfl 0 Sz3) <| O (LdU (V rfl) rfl Ga3 (by decide) (uat_off (by decide))) <| O (As (V rfl)) <| Nq <| Sq <| Rq <| O (Mv (V rfl)) <| O (Ge (V rfl) K) <| Nq <| Cd (V rfl) (fun hc1 => ?_) (fun hc1 => ?_)
 ·have hc1s := hc1; try simp only [BL] at hc1s
  have hpp := (par_kid hc hk hc1s).1
  have hkf := kids_few hc (i := (l.getD k.toNat default).par.toNat) (by omega)
  refine Sq <| Tc (turn_splitT 1 (Int.toNat ((l.getD (Int.toNat k) default).par)) 3 rfl (by omega) rfl rfl) <| c_rd (fun e => ⟨[(15, cj (e 0) (SV.bp 1000 0)), (16, cj (e 1) (SV.bp 1000 0)), (17, cj (e 2) (SV.bp 1000 0)), (18, cj (e 3) (SV.own 1)), (19, cj (e 4) (iv ((l.getD (Int.toNat k) default).par))), (20, cj (e 5) (SV.bp 1000 0)), (21, cj (e 6) (SV.bp 1000 0)), (22, cj (e 7) (SV.bp 1000 0)), (23, cj (e 8) (SV.own 1)), (24, cj (e 9) (iv ((l.getD (Int.toNat k) default).par))), (25, cj (e 10) (SV.oe 1 8 (Int.toNat ((l.getD (Int.toNat k) default).par)) 0)), (26, cj (e 11) (SV.oe 1 8 (Int.toNat ((l.getD (Int.toNat k) default).par)) 5)), (27, cj (e 12) (SV.own 3)), (28, cj (e 13) (fnL 150 [elB [iv (k)] 0])), (29, cj (e 14) (SV.own 4)), (30, cj (e 15) (SV.oe 1 8 (Int.toNat ((l.getD (Int.toNat k) default).par)) 0)), (31, cj (e 16) (SV.oe 1 8 (Int.toNat ((l.getD (Int.toNat k) default).par)) 5)), (0, SV.bp 1000 0), (3, elB [iv (k)] 0), (4, iv ((l.getD (Int.toNat k) default).par))], (cb (e 14) (cb (e 17) [(1, urowOf ndCell 8 default l 61 5 Nd.kids inCell 1 0 3 l.length (some (Int.toNat ((l.getD (Int.toNat k) default).par), SV.own 4))), (1000, Own.box 1 (fun zt => SV.renm (mvN 1001 1) ((cmpG [SV.own 1001]) zt)) 24), (4, ownOf inCell 1 0 ((Nd.kids (l.getD (Int.toNat ((l.getD (Int.toNat k) default).par)) default)).filter (fun x => !decide (x = k))) 3)] [(1, urowOf ndCell 8 default l 61 5 Nd.kids inCell 1 0 3 l.length (some (Int.toNat ((l.getD (Int.toNat k) default).par), SV.own 3))), (1000, Own.box 1 (fun zt => SV.renm (mvN 1001 1) ((cmpG [SV.own 1001]) zt)) 24), (4, ownOf inCell 1 0 ((Nd.kids (l.getD (Int.toNat ((l.getD (Int.toNat k) default).par)) default)).filter (fun x => !decide (x = k))) 3)]) (cb (e 17) [] [(1, urowOf ndCell 8 default l 61 5 Nd.kids inCell 1 0 3 l.length (some (Int.toNat ((l.getD (Int.toNat k) default).par), SV.own 3))), (3, ownOf inCell 1 0 (Nd.kids (l.getD (Int.toNat ((l.getD (Int.toNat k) default).par)) default)) 3), (1000, Own.box 1 (fun zt => SV.renm (mvN 1001 1) ((cmpG [SV.own 1001]) zt)) 24)]))⟩) ⟨[(15, SV.bp 1000 0), (16, SV.bp 1000 0), (17, SV.bp 1000 0), (18, SV.own 1), (19, iv ((l.getD (Int.toNat k) default).par)), (20, SV.bp 1000 0), (21, SV.bp 1000 0), (22, SV.bp 1000 0), (23, SV.own 1), (24, iv ((l.getD (Int.toNat k) default).par)), (25, SV.oe 1 8 (Int.toNat ((l.getD (Int.toNat k) default).par)) 0), (26, SV.oe 1 8 (Int.toNat ((l.getD (Int.toNat k) default).par)) 5), (27, SV.own 3), (28, fnL 150 [elB [iv (k)] 0]), (29, SV.own 4), (30, SV.oe 1 8 (Int.toNat ((l.getD (Int.toNat k) default).par)) 0), (31, SV.oe 1 8 (Int.toNat ((l.getD (Int.toNat k) default).par)) 5), (0, SV.bp 1000 0), (3, elB [iv (k)] 0), (4, iv ((l.getD (Int.toNat k) default).par))], [(1, urowOf ndCell 8 default l 61 5 Nd.kids inCell 1 0 3 l.length (some (Int.toNat ((l.getD (Int.toNat k) default).par), SV.own 4))), (1000, Own.box 1 (fun zt => SV.renm (mvN 1001 1) ((cmpG [SV.own 1001]) zt)) 24), (4, ownOf inCell 1 0 ((Nd.kids (l.getD (Int.toNat ((l.getD (Int.toNat k) default).par)) default)).filter (fun x => !decide (x = k))) 3)]⟩ (by kernel_rfl) (by kernel_rfl) ?_ ⟨?_, ?_, ?_, ?_, ?_, ?_, ?_, ?_, ?_, ?_, ?_, ?_, ?_, ?_, ?_, ?_, ?_, ?_, Z⟩ ?_ ?_
  ·show Weak _ _ ⟨[(15, SV.junk), (16, SV.junk), (17, SV.junk), (18, SV.junk), (19, SV.junk), (20, SV.junk), (21, SV.junk), (22, SV.junk), (23, SV.junk), (24, SV.junk), (25, SV.junk), (26, SV.junk), (27, SV.junk), (28, SV.junk), (29, SV.junk), (30, SV.junk), (31, SV.junk), (0, SV.bp 1000 0), (3, elB [iv (k)] 0), (4, iv ((l.getD (Int.toNat k) default).par))], [(1, urowOf ndCell 8 default l 61 5 Nd.kids inCell 1 0 3 l.length (some (Int.toNat ((l.getD (Int.toNat k) default).par), SV.own 3))), (3, ownOf inCell 1 0 (Nd.kids (l.getD (Int.toNat ((l.getD (Int.toNat k) default).par)) default)) 3), (1000, Own.box 1 (fun zt => SV.renm (mvN 1001 1) ((cmpG [SV.own 1001]) zt)) 24)]⟩
   refine We ?_ ?_
   ·exact ⟨Vj, Vj, Vj, Vj, Vj, Vj, Vj, Vj, Vj, Vj, Vj, Vj, Vj, Vj, Vj, Vj, Vj, V rfl, V rfl, V rfl, Z⟩
   ·exact ⟨⟨_, rfl, rfl⟩, ⟨_, rfl, rfl⟩, ⟨_, rfl, ⟨rfl, rfl, (An rfl)⟩⟩, Z⟩
  ·intro e hdn he hdp
   have h17 : e 17 = false := fls he fun q => by obtain ⟨r16, -, -, -, -, -, -, -, -, -, -, -, -, -, -, -, -, -, -⟩ := (show e 16 = true ∧ e 14 = true ∧ e 14 = true ∧ e 0 = true ∧ e 1 = true ∧ e 2 = true ∧ e 3 = true ∧ e 4 = true ∧ e 5 = true ∧ e 6 = true ∧ e 7 = true ∧ e 8 = true ∧ e 9 = true ∧ e 10 = true ∧ e 11 = true ∧ e 12 = true ∧ e 13 = true ∧ e 14 = true ∧ True from hdn 17 q); obtain ⟨r15, -, -, -, -, -, -, -, -, -, -, -, -, -, -, -, -⟩ := (show e 15 = true ∧ e 0 = true ∧ e 1 = true ∧ e 2 = true ∧ e 3 = true ∧ e 4 = true ∧ e 5 = true ∧ e 6 = true ∧ e 7 = true ∧ e 8 = true ∧ e 9 = true ∧ e 10 = true ∧ e 11 = true ∧ e 12 = true ∧ e 13 = true ∧ e 14 = true ∧ True from hdn 16 r16); obtain ⟨r3, -, -, -, -, -, -, -, -, -, -, -, -, -, -, -, -, -⟩ := (show e 3 = true ∧ e 4 = true ∧ e 0 = true ∧ e 1 = true ∧ e 2 = true ∧ e 3 = true ∧ e 4 = true ∧ e 5 = true ∧ e 6 = true ∧ e 7 = true ∧ e 8 = true ∧ e 9 = true ∧ e 10 = true ∧ e 11 = true ∧ e 12 = true ∧ e 13 = true ∧ e 14 = true ∧ True from hdn 15 r15); obtain ⟨r2, -⟩ := (show e 2 = true ∧ True from hdn 3 r3); obtain ⟨r1, -⟩ := (show e 1 = true ∧ True from hdn 2 r2); obtain ⟨r0, -⟩ := (show e 0 = true ∧ True from hdn 1 r1); exact r0
   simp only [setE, he, h17, cj_t, cj_f, cjn_t, cjn_f, cb_t, cb_f]
   exact U (Mv (V rfl)) <| Nt <| weakS ⟨V rfl, V rfl, V rfl, V rfl, V rfl, V rfl, V rfl, V rfl, V rfl, V rfl, V rfl, V rfl, V rfl, V rfl, V rfl, V rfl, V rfl, V rfl, V rfl, V rfl, Z⟩
  ·intro e hdn he hdp
   obtain ⟨h0, -⟩ := (show e 0 = true ∧ True from hdp)
   have h17 : e 17 = false := fls he fun q => by obtain ⟨r16, -, -, -, -, -, -, -, -, -, -, -, -, -, -, -, -, -, -⟩ := (show e 16 = true ∧ e 14 = true ∧ e 14 = true ∧ e 0 = true ∧ e 1 = true ∧ e 2 = true ∧ e 3 = true ∧ e 4 = true ∧ e 5 = true ∧ e 6 = true ∧ e 7 = true ∧ e 8 = true ∧ e 9 = true ∧ e 10 = true ∧ e 11 = true ∧ e 12 = true ∧ e 13 = true ∧ e 14 = true ∧ True from hdn 17 q); obtain ⟨r15, -, -, -, -, -, -, -, -, -, -, -, -, -, -, -, -⟩ := (show e 15 = true ∧ e 0 = true ∧ e 1 = true ∧ e 2 = true ∧ e 3 = true ∧ e 4 = true ∧ e 5 = true ∧ e 6 = true ∧ e 7 = true ∧ e 8 = true ∧ e 9 = true ∧ e 10 = true ∧ e 11 = true ∧ e 12 = true ∧ e 13 = true ∧ e 14 = true ∧ True from hdn 16 r16); obtain ⟨r3, -, -, -, -, -, -, -, -, -, -, -, -, -, -, -, -, -⟩ := (show e 3 = true ∧ e 4 = true ∧ e 0 = true ∧ e 1 = true ∧ e 2 = true ∧ e 3 = true ∧ e 4 = true ∧ e 5 = true ∧ e 6 = true ∧ e 7 = true ∧ e 8 = true ∧ e 9 = true ∧ e 10 = true ∧ e 11 = true ∧ e 12 = true ∧ e 13 = true ∧ e 14 = true ∧ True from hdn 15 r15); obtain ⟨r2, -⟩ := (show e 2 = true ∧ True from hdn 3 r3); obtain ⟨r1, -⟩ := (show e 1 = true ∧ True from hdn 2 r2); exact r1
   cases hu14 : e 14
   ·simp only [setE, h0, he, h17, hu14, cj_t, cj_f, cjn_t, cjn_f, cb_t, cb_f]
    refine U (q_nilB (V rfl)) <| Nt <| We ?_ ?_
    ·exact ⟨V rfl, V rfl, V rfl, V rfl, V rfl, V rfl, V rfl, V rfl, V rfl, V rfl, V rfl, V rfl, V rfl, V rfl, Vj, V rfl, V rfl, V rfl, V rfl, V rfl, Z⟩
    ·exact ⟨⟨_, rfl, rfl⟩, ⟨_, rfl, rfl⟩, ⟨_, rfl, ⟨rfl, rfl, (An rfl)⟩⟩, Z⟩
   ·simp only [setE, h0, he, h17, hu14, cj_t, cj_f, cjn_t, cjn_f, cb_t, cb_f]
    refine U (q_nilB (V rfl)) <| Nt <| We ?_ ?_
    ·exact ⟨V rfl, V rfl, V rfl, V rfl, V rfl, V rfl, V rfl, V rfl, V rfl, V rfl, V rfl, V rfl, V rfl, V rfl, V rfl, V rfl, V rfl, V rfl, V rfl, V rfl, Z⟩
    ·exact ⟨⟨_, rfl, rfl⟩, ⟨_, rfl, ⟨rfl, rfl, (An rfl)⟩⟩, ⟨_, rfl, rfl⟩, Z⟩
  ·intro e hdn he hdp
   obtain ⟨h1, -⟩ := (show e 1 = true ∧ True from hdp)
   obtain ⟨h0, -⟩ := (show e 0 = true ∧ True from hdn 1 h1)
   have h17 : e 17 = false := fls he fun q => by obtain ⟨r16, -, -, -, -, -, -, -, -, -, -, -, -, -, -, -, -, -, -⟩ := (show e 16 = true ∧ e 14 = true ∧ e 14 = true ∧ e 0 = true ∧ e 1 = true ∧ e 2 = true ∧ e 3 = true ∧ e 4 = true ∧ e 5 = true ∧ e 6 = true ∧ e 7 = true ∧ e 8 = true ∧ e 9 = true ∧ e 10 = true ∧ e 11 = true ∧ e 12 = true ∧ e 13 = true ∧ e 14 = true ∧ True from hdn 17 q); obtain ⟨r15, -, -, -, -, -, -, -, -, -, -, -, -, -, -, -, -⟩ := (show e 15 = true ∧ e 0 = true ∧ e 1 = true ∧ e 2 = true ∧ e 3 = true ∧ e 4 = true ∧ e 5 = true ∧ e 6 = true ∧ e 7 = true ∧ e 8 = true ∧ e 9 = true ∧ e 10 = true ∧ e 11 = true ∧ e 12 = true ∧ e 13 = true ∧ e 14 = true ∧ True from hdn 16 r16); obtain ⟨r3, -, -, -, -, -, -, -, -, -, -, -, -, -, -, -, -, -⟩ := (show e 3 = true ∧ e 4 = true ∧ e 0 = true ∧ e 1 = true ∧ e 2 = true ∧ e 3 = true ∧ e 4 = true ∧ e 5 = true ∧ e 6 = true ∧ e 7 = true ∧ e 8 = true ∧ e 9 = true ∧ e 10 = true ∧ e 11 = true ∧ e 12 = true ∧ e 13 = true ∧ e 14 = true ∧ True from hdn 15 r15); obtain ⟨r2, -⟩ := (show e 2 = true ∧ True from hdn 3 r3); exact r2
   simp only [setE, h0, h1, he, h17, cj_t, cj_f, cjn_t, cjn_f, cb_t, cb_f]
   exact U (FlB _ _ (V rfl) Un24 rfl 0 Sz22) <| Nt <| weakS ⟨V rfl, V rfl, V rfl, V rfl, V rfl, V rfl, V rfl, V rfl, V rfl, V rfl, V rfl, V rfl, V rfl, V rfl, V rfl, V rfl, V rfl, V rfl, V rfl, V rfl, Z⟩
  ·intro e hdn he hdp
   obtain ⟨h2, -⟩ := (show e 2 = true ∧ True from hdp)
   obtain ⟨h1, -⟩ := (show e 1 = true ∧ True from hdn 2 h2)
   obtain ⟨h0, -⟩ := (show e 0 = true ∧ True from hdn 1 h1)
   have h17 : e 17 = false := fls he fun q => by obtain ⟨r16, -, -, -, -, -, -, -, -, -, -, -, -, -, -, -, -, -, -⟩ := (show e 16 = true ∧ e 14 = true ∧ e 14 = true ∧ e 0 = true ∧ e 1 = true ∧ e 2 = true ∧ e 3 = true ∧ e 4 = true ∧ e 5 = true ∧ e 6 = true ∧ e 7 = true ∧ e 8 = true ∧ e 9 = true ∧ e 10 = true ∧ e 11 = true ∧ e 12 = true ∧ e 13 = true ∧ e 14 = true ∧ True from hdn 17 q); obtain ⟨r15, -, -, -, -, -, -, -, -, -, -, -, -, -, -, -, -⟩ := (show e 15 = true ∧ e 0 = true ∧ e 1 = true ∧ e 2 = true ∧ e 3 = true ∧ e 4 = true ∧ e 5 = true ∧ e 6 = true ∧ e 7 = true ∧ e 8 = true ∧ e 9 = true ∧ e 10 = true ∧ e 11 = true ∧ e 12 = true ∧ e 13 = true ∧ e 14 = true ∧ True from hdn 16 r16); obtain ⟨r3, -, -, -, -, -, -, -, -, -, -, -, -, -, -, -, -, -⟩ := (show e 3 = true ∧ e 4 = true ∧ e 0 = true ∧ e 1 = true ∧ e 2 = true ∧ e 3 = true ∧ e 4 = true ∧ e 5 = true ∧ e 6 = true ∧ e 7 = true ∧ e 8 = true ∧ e 9 = true ∧ e 10 = true ∧ e 11 = true ∧ e 12 = true ∧ e 13 = true ∧ e 14 = true ∧ True from hdn 15 r15); exact r3
   cases hu14 : e 14
   ·simp only [setE, h0, h1, h2, he, h17, hu14, cj_t, cj_f, cjn_t, cjn_f, cb_t, cb_f]
    refine U (LdB (V rfl) rfl Ga22 (by decide)) <| Nt <| We ?_ ?_
    ·exact ⟨V rfl, V rfl, V rfl, V rfl, V rfl, V rfl, V rfl, V rfl, V rfl, V rfl, V rfl, V rfl, V rfl, V rfl, Vj, V rfl, V rfl, V rfl, V rfl, V rfl, Z⟩
    ·exact ⟨⟨_, rfl, rfl⟩, ⟨_, rfl, rfl⟩, ⟨_, rfl, ⟨rfl, rfl, (An rfl)⟩⟩, Z⟩
   ·simp only [setE, h0, h1, h2, he, h17, hu14, cj_t, cj_f, cjn_t, cjn_f, cb_t, cb_f]
    refine U (LdB (V rfl) rfl Ga22 (by decide)) <| Nt <| We ?_ ?_
    ·exact ⟨V rfl, V rfl, V rfl, V rfl, V rfl, V rfl, V rfl, V rfl, V rfl, V rfl, V rfl, V rfl, V rfl, V rfl, V rfl, V rfl, V rfl, V rfl, V rfl, V rfl, Z⟩
    ·exact ⟨⟨_, rfl, rfl⟩, ⟨_, rfl, ⟨rfl, rfl, (An rfl)⟩⟩, ⟨_, rfl, rfl⟩, Z⟩
  ·intro e hdn he hdp
   have h17 : e 17 = false := fls he fun q => by obtain ⟨r16, -, -, -, -, -, -, -, -, -, -, -, -, -, -, -, -, -, -⟩ := (show e 16 = true ∧ e 14 = true ∧ e 14 = true ∧ e 0 = true ∧ e 1 = true ∧ e 2 = true ∧ e 3 = true ∧ e 4 = true ∧ e 5 = true ∧ e 6 = true ∧ e 7 = true ∧ e 8 = true ∧ e 9 = true ∧ e 10 = true ∧ e 11 = true ∧ e 12 = true ∧ e 13 = true ∧ e 14 = true ∧ True from hdn 17 q); obtain ⟨r15, -, -, -, -, -, -, -, -, -, -, -, -, -, -, -, -⟩ := (show e 15 = true ∧ e 0 = true ∧ e 1 = true ∧ e 2 = true ∧ e 3 = true ∧ e 4 = true ∧ e 5 = true ∧ e 6 = true ∧ e 7 = true ∧ e 8 = true ∧ e 9 = true ∧ e 10 = true ∧ e 11 = true ∧ e 12 = true ∧ e 13 = true ∧ e 14 = true ∧ True from hdn 16 r16); obtain ⟨-, r4, -, -, -, -, -, -, -, -, -, -, -, -, -, -, -, -⟩ := (show e 3 = true ∧ e 4 = true ∧ e 0 = true ∧ e 1 = true ∧ e 2 = true ∧ e 3 = true ∧ e 4 = true ∧ e 5 = true ∧ e 6 = true ∧ e 7 = true ∧ e 8 = true ∧ e 9 = true ∧ e 10 = true ∧ e 11 = true ∧ e 12 = true ∧ e 13 = true ∧ e 14 = true ∧ True from hdn 15 r15); exact r4
   simp only [setE, he, h17, cj_t, cj_f, cjn_t, cjn_f, cb_t, cb_f]
   exact U (Mv (V rfl)) <| Nt <| weakS ⟨V rfl, V rfl, V rfl, V rfl, V rfl, V rfl, V rfl, V rfl, V rfl, V rfl, V rfl, V rfl, V rfl, V rfl, V rfl, V rfl, V rfl, V rfl, V rfl, V rfl, Z⟩
  ·intro e hdn he hdp
   have h14 : e 14 = false := fls he fun q => by obtain ⟨r12, -, -⟩ := (show e 12 = true ∧ e 13 = true ∧ True from hdn 14 q); obtain ⟨r11, -⟩ := (show e 11 = true ∧ True from hdn 12 r12); obtain ⟨r10, -⟩ := (show e 10 = true ∧ True from hdn 11 r11); obtain ⟨r8, -, -⟩ := (show e 8 = true ∧ e 9 = true ∧ True from hdn 10 r10); obtain ⟨r7, -⟩ := (show e 7 = true ∧ True from hdn 8 r8); obtain ⟨r6, -⟩ := (show e 6 = true ∧ True from hdn 7 r7); obtain ⟨r5, -⟩ := (show e 5 = true ∧ True from hdn 6 r6); exact r5
   have h17 : e 17 = false := fls he fun q => by obtain ⟨r16, -, -, -, -, -, -, -, -, -, -, -, -, -, -, -, -, -, -⟩ := (show e 16 = true ∧ e 14 = true ∧ e 14 = true ∧ e 0 = true ∧ e 1 = true ∧ e 2 = true ∧ e 3 = true ∧ e 4 = true ∧ e 5 = true ∧ e 6 = true ∧ e 7 = true ∧ e 8 = true ∧ e 9 = true ∧ e 10 = true ∧ e 11 = true ∧ e 12 = true ∧ e 13 = true ∧ e 14 = true ∧ True from hdn 17 q); obtain ⟨r15, -, -, -, -, -, -, -, -, -, -, -, -, -, -, -, -⟩ := (show e 15 = true ∧ e 0 = true ∧ e 1 = true ∧ e 2 = true ∧ e 3 = true ∧ e 4 = true ∧ e 5 = true ∧ e 6 = true ∧ e 7 = true ∧ e 8 = true ∧ e 9 = true ∧ e 10 = true ∧ e 11 = true ∧ e 12 = true ∧ e 13 = true ∧ e 14 = true ∧ True from hdn 16 r16); obtain ⟨-, -, -, -, -, -, -, -, -, -, -, -, -, -, -, -, r14, -⟩ := (show e 3 = true ∧ e 4 = true ∧ e 0 = true ∧ e 1 = true ∧ e 2 = true ∧ e 3 = true ∧ e 4 = true ∧ e 5 = true ∧ e 6 = true ∧ e 7 = true ∧ e 8 = true ∧ e 9 = true ∧ e 10 = true ∧ e 11 = true ∧ e 12 = true ∧ e 13 = true ∧ e 14 = true ∧ True from hdn 15 r15); obtain ⟨r12, -, -⟩ := (show e 12 = true ∧ e 13 = true ∧ True from hdn 14 r14); obtain ⟨r11, -⟩ := (show e 11 = true ∧ True from hdn 12 r12); obtain ⟨r10, -⟩ := (show e 10 = true ∧ True from hdn 11 r11); obtain ⟨r8, -, -⟩ := (show e 8 = true ∧ e 9 = true ∧ True from hdn 10 r10); obtain ⟨r7, -⟩ := (show e 7 = true ∧ True from hdn 8 r8); obtain ⟨r6, -⟩ := (show e 6 = true ∧ True from hdn 7 r7); obtain ⟨r5, -⟩ := (show e 5 = true ∧ True from hdn 6 r6); exact r5
   simp only [setE, he, h14, h17, cj_t, cj_f, cjn_t, cjn_f, cb_t, cb_f]
   refine U (Mv (V rfl)) <| Nt <| We ?_ ?_
   ·exact ⟨V rfl, V rfl, V rfl, V rfl, V rfl, V rfl, V rfl, V rfl, V rfl, V rfl, V rfl, V rfl, V rfl, V rfl, Vj, V rfl, V rfl, V rfl, V rfl, V rfl, Z⟩
   ·exact ⟨⟨_, rfl, rfl⟩, ⟨_, rfl, rfl⟩, ⟨_, rfl, ⟨rfl, rfl, (An rfl)⟩⟩, Z⟩
  ·intro e hdn he hdp
   obtain ⟨h5, -⟩ := (show e 5 = true ∧ True from hdp)
   have h14 : e 14 = false := fls he fun q => by obtain ⟨r12, -, -⟩ := (show e 12 = true ∧ e 13 = true ∧ True from hdn 14 q); obtain ⟨r11, -⟩ := (show e 11 = true ∧ True from hdn 12 r12); obtain ⟨r10, -⟩ := (show e 10 = true ∧ True from hdn 11 r11); obtain ⟨r8, -, -⟩ := (show e 8 = true ∧ e 9 = true ∧ True from hdn 10 r10); obtain ⟨r7, -⟩ := (show e 7 = true ∧ True from hdn 8 r8); obtain ⟨r6, -⟩ := (show e 6 = true ∧ True from hdn 7 r7); exact r6
   have h17 : e 17 = false := fls he fun q => by obtain ⟨r16, -, -, -, -, -, -, -, -, -, -, -, -, -, -, -, -, -, -⟩ := (show e 16 = true ∧ e 14 = true ∧ e 14 = true ∧ e 0 = true ∧ e 1 = true ∧ e 2 = true ∧ e 3 = true ∧ e 4 = true ∧ e 5 = true ∧ e 6 = true ∧ e 7 = true ∧ e 8 = true ∧ e 9 = true ∧ e 10 = true ∧ e 11 = true ∧ e 12 = true ∧ e 13 = true ∧ e 14 = true ∧ True from hdn 17 q); obtain ⟨r15, -, -, -, -, -, -, -, -, -, -, -, -, -, -, -, -⟩ := (show e 15 = true ∧ e 0 = true ∧ e 1 = true ∧ e 2 = true ∧ e 3 = true ∧ e 4 = true ∧ e 5 = true ∧ e 6 = true ∧ e 7 = true ∧ e 8 = true ∧ e 9 = true ∧ e 10 = true ∧ e 11 = true ∧ e 12 = true ∧ e 13 = true ∧ e 14 = true ∧ True from hdn 16 r16); obtain ⟨-, -, -, -, -, -, -, -, -, -, -, -, -, -, -, -, r14, -⟩ := (show e 3 = true ∧ e 4 = true ∧ e 0 = true ∧ e 1 = true ∧ e 2 = true ∧ e 3 = true ∧ e 4 = true ∧ e 5 = true ∧ e 6 = true ∧ e 7 = true ∧ e 8 = true ∧ e 9 = true ∧ e 10 = true ∧ e 11 = true ∧ e 12 = true ∧ e 13 = true ∧ e 14 = true ∧ True from hdn 15 r15); obtain ⟨r12, -, -⟩ := (show e 12 = true ∧ e 13 = true ∧ True from hdn 14 r14); obtain ⟨r11, -⟩ := (show e 11 = true ∧ True from hdn 12 r12); obtain ⟨r10, -⟩ := (show e 10 = true ∧ True from hdn 11 r11); obtain ⟨r8, -, -⟩ := (show e 8 = true ∧ e 9 = true ∧ True from hdn 10 r10); obtain ⟨r7, -⟩ := (show e 7 = true ∧ True from hdn 8 r8); obtain ⟨r6, -⟩ := (show e 6 = true ∧ True from hdn 7 r7); exact r6
   simp only [setE, h5, he, h14, h17, cj_t, cj_f, cjn_t, cjn_f, cb_t, cb_f]
   refine U (q_nilB (V rfl)) <| Nt <| We ?_ ?_
   ·exact ⟨V rfl, V rfl, V rfl, V rfl, V rfl, V rfl, V rfl, V rfl, V rfl, V rfl, V rfl, V rfl, V rfl, V rfl, Vj, V rfl, V rfl, V rfl, V rfl, V rfl, Z⟩
   ·exact ⟨⟨_, rfl, rfl⟩, ⟨_, rfl, rfl⟩, ⟨_, rfl, ⟨rfl, rfl, (An rfl)⟩⟩, Z⟩
  ·intro e hdn he hdp
   obtain ⟨h6, -⟩ := (show e 6 = true ∧ True from hdp)
   obtain ⟨h5, -⟩ := (show e 5 = true ∧ True from hdn 6 h6)
   have h14 : e 14 = false := fls he fun q => by obtain ⟨r12, -, -⟩ := (show e 12 = true ∧ e 13 = true ∧ True from hdn 14 q); obtain ⟨r11, -⟩ := (show e 11 = true ∧ True from hdn 12 r12); obtain ⟨r10, -⟩ := (show e 10 = true ∧ True from hdn 11 r11); obtain ⟨r8, -, -⟩ := (show e 8 = true ∧ e 9 = true ∧ True from hdn 10 r10); obtain ⟨r7, -⟩ := (show e 7 = true ∧ True from hdn 8 r8); exact r7
   have h17 : e 17 = false := fls he fun q => by obtain ⟨r16, -, -, -, -, -, -, -, -, -, -, -, -, -, -, -, -, -, -⟩ := (show e 16 = true ∧ e 14 = true ∧ e 14 = true ∧ e 0 = true ∧ e 1 = true ∧ e 2 = true ∧ e 3 = true ∧ e 4 = true ∧ e 5 = true ∧ e 6 = true ∧ e 7 = true ∧ e 8 = true ∧ e 9 = true ∧ e 10 = true ∧ e 11 = true ∧ e 12 = true ∧ e 13 = true ∧ e 14 = true ∧ True from hdn 17 q); obtain ⟨r15, -, -, -, -, -, -, -, -, -, -, -, -, -, -, -, -⟩ := (show e 15 = true ∧ e 0 = true ∧ e 1 = true ∧ e 2 = true ∧ e 3 = true ∧ e 4 = true ∧ e 5 = true ∧ e 6 = true ∧ e 7 = true ∧ e 8 = true ∧ e 9 = true ∧ e 10 = true ∧ e 11 = true ∧ e 12 = true ∧ e 13 = true ∧ e 14 = true ∧ True from hdn 16 r16); obtain ⟨-, -, -, -, -, -, -, -, -, -, -, -, -, -, -, -, r14, -⟩ := (show e 3 = true ∧ e 4 = true ∧ e 0 = true ∧ e 1 = true ∧ e 2 = true ∧ e 3 = true ∧ e 4 = true ∧ e 5 = true ∧ e 6 = true ∧ e 7 = true ∧ e 8 = true ∧ e 9 = true ∧ e 10 = true ∧ e 11 = true ∧ e 12 = true ∧ e 13 = true ∧ e 14 = true ∧ True from hdn 15 r15); obtain ⟨r12, -, -⟩ := (show e 12 = true ∧ e 13 = true ∧ True from hdn 14 r14); obtain ⟨r11, -⟩ := (show e 11 = true ∧ True from hdn 12 r12); obtain ⟨r10, -⟩ := (show e 10 = true ∧ True from hdn 11 r11); obtain ⟨r8, -, -⟩ := (show e 8 = true ∧ e 9 = true ∧ True from hdn 10 r10); obtain ⟨r7, -⟩ := (show e 7 = true ∧ True from hdn 8 r8); exact r7
   simp only [setE, h5, h6, he, h14, h17, cj_t, cj_f, cjn_t, cjn_f, cb_t, cb_f]
   refine U (FlB _ _ (V rfl) Un24 rfl 0 Sz22) <| Nt <| We ?_ ?_
   ·exact ⟨V rfl, V rfl, V rfl, V rfl, V rfl, V rfl, V rfl, V rfl, V rfl, V rfl, V rfl, V rfl, V rfl, V rfl, Vj, V rfl, V rfl, V rfl, V rfl, V rfl, Z⟩
   ·exact ⟨⟨_, rfl, rfl⟩, ⟨_, rfl, rfl⟩, ⟨_, rfl, ⟨rfl, rfl, (An rfl)⟩⟩, Z⟩
  ·intro e hdn he hdp
   obtain ⟨h7, -⟩ := (show e 7 = true ∧ True from hdp)
   obtain ⟨h6, -⟩ := (show e 6 = true ∧ True from hdn 7 h7)
   obtain ⟨h5, -⟩ := (show e 5 = true ∧ True from hdn 6 h6)
   have h14 : e 14 = false := fls he fun q => by obtain ⟨r12, -, -⟩ := (show e 12 = true ∧ e 13 = true ∧ True from hdn 14 q); obtain ⟨r11, -⟩ := (show e 11 = true ∧ True from hdn 12 r12); obtain ⟨r10, -⟩ := (show e 10 = true ∧ True from hdn 11 r11); obtain ⟨r8, -, -⟩ := (show e 8 = true ∧ e 9 = true ∧ True from hdn 10 r10); exact r8
   have h17 : e 17 = false := fls he fun q => by obtain ⟨r16, -, -, -, -, -, -, -, -, -, -, -, -, -, -, -, -, -, -⟩ := (show e 16 = true ∧ e 14 = true ∧ e 14 = true ∧ e 0 = true ∧ e 1 = true ∧ e 2 = true ∧ e 3 = true ∧ e 4 = true ∧ e 5 = true ∧ e 6 = true ∧ e 7 = true ∧ e 8 = true ∧ e 9 = true ∧ e 10 = true ∧ e 11 = true ∧ e 12 = true ∧ e 13 = true ∧ e 14 = true ∧ True from hdn 17 q); obtain ⟨r15, -, -, -, -, -, -, -, -, -, -, -, -, -, -, -, -⟩ := (show e 15 = true ∧ e 0 = true ∧ e 1 = true ∧ e 2 = true ∧ e 3 = true ∧ e 4 = true ∧ e 5 = true ∧ e 6 = true ∧ e 7 = true ∧ e 8 = true ∧ e 9 = true ∧ e 10 = true ∧ e 11 = true ∧ e 12 = true ∧ e 13 = true ∧ e 14 = true ∧ True from hdn 16 r16); obtain ⟨-, -, -, -, -, -, -, -, -, -, -, -, -, -, -, -, r14, -⟩ := (show e 3 = true ∧ e 4 = true ∧ e 0 = true ∧ e 1 = true ∧ e 2 = true ∧ e 3 = true ∧ e 4 = true ∧ e 5 = true ∧ e 6 = true ∧ e 7 = true ∧ e 8 = true ∧ e 9 = true ∧ e 10 = true ∧ e 11 = true ∧ e 12 = true ∧ e 13 = true ∧ e 14 = true ∧ True from hdn 15 r15); obtain ⟨r12, -, -⟩ := (show e 12 = true ∧ e 13 = true ∧ True from hdn 14 r14); obtain ⟨r11, -⟩ := (show e 11 = true ∧ True from hdn 12 r12); obtain ⟨r10, -⟩ := (show e 10 = true ∧ True from hdn 11 r11); obtain ⟨r8, -, -⟩ := (show e 8 = true ∧ e 9 = true ∧ True from hdn 10 r10); exact r8
   simp only [setE, h5, h6, h7, he, h14, h17, cj_t, cj_f, cjn_t, cjn_f, cb_t, cb_f]
   refine U (LdB (V rfl) rfl Ga22 (by decide)) <| Nt <| We ?_ ?_
   ·exact ⟨V rfl, V rfl, V rfl, V rfl, V rfl, V rfl, V rfl, V rfl, V rfl, V rfl, V rfl, V rfl, V rfl, V rfl, Vj, V rfl, V rfl, V rfl, V rfl, V rfl, Z⟩
   ·exact ⟨⟨_, rfl, rfl⟩, ⟨_, rfl, rfl⟩, ⟨_, rfl, ⟨rfl, rfl, (An rfl)⟩⟩, Z⟩
  ·intro e hdn he hdp
   have h14 : e 14 = false := fls he fun q => by obtain ⟨r12, -, -⟩ := (show e 12 = true ∧ e 13 = true ∧ True from hdn 14 q); obtain ⟨r11, -⟩ := (show e 11 = true ∧ True from hdn 12 r12); obtain ⟨r10, -⟩ := (show e 10 = true ∧ True from hdn 11 r11); obtain ⟨-, r9, -⟩ := (show e 8 = true ∧ e 9 = true ∧ True from hdn 10 r10); exact r9
   have h17 : e 17 = false := fls he fun q => by obtain ⟨r16, -, -, -, -, -, -, -, -, -, -, -, -, -, -, -, -, -, -⟩ := (show e 16 = true ∧ e 14 = true ∧ e 14 = true ∧ e 0 = true ∧ e 1 = true ∧ e 2 = true ∧ e 3 = true ∧ e 4 = true ∧ e 5 = true ∧ e 6 = true ∧ e 7 = true ∧ e 8 = true ∧ e 9 = true ∧ e 10 = true ∧ e 11 = true ∧ e 12 = true ∧ e 13 = true ∧ e 14 = true ∧ True from hdn 17 q); obtain ⟨r15, -, -, -, -, -, -, -, -, -, -, -, -, -, -, -, -⟩ := (show e 15 = true ∧ e 0 = true ∧ e 1 = true ∧ e 2 = true ∧ e 3 = true ∧ e 4 = true ∧ e 5 = true ∧ e 6 = true ∧ e 7 = true ∧ e 8 = true ∧ e 9 = true ∧ e 10 = true ∧ e 11 = true ∧ e 12 = true ∧ e 13 = true ∧ e 14 = true ∧ True from hdn 16 r16); obtain ⟨-, -, -, -, -, -, -, -, -, -, -, -, -, -, -, -, r14, -⟩ := (show e 3 = true ∧ e 4 = true ∧ e 0 = true ∧ e 1 = true ∧ e 2 = true ∧ e 3 = true ∧ e 4 = true ∧ e 5 = true ∧ e 6 = true ∧ e 7 = true ∧ e 8 = true ∧ e 9 = true ∧ e 10 = true ∧ e 11 = true ∧ e 12 = true ∧ e 13 = true ∧ e 14 = true ∧ True from hdn 15 r15); obtain ⟨r12, -, -⟩ := (show e 12 = true ∧ e 13 = true ∧ True from hdn 14 r14); obtain ⟨r11, -⟩ := (show e 11 = true ∧ True from hdn 12 r12); obtain ⟨r10, -⟩ := (show e 10 = true ∧ True from hdn 11 r11); obtain ⟨-, r9, -⟩ := (show e 8 = true ∧ e 9 = true ∧ True from hdn 10 r10); exact r9
   simp only [setE, he, h14, h17, cj_t, cj_f, cjn_t, cjn_f, cb_t, cb_f]
   refine U (Mv (V rfl)) <| Nt <| We ?_ ?_
   ·exact ⟨V rfl, V rfl, V rfl, V rfl, V rfl, V rfl, V rfl, V rfl, V rfl, V rfl, V rfl, V rfl, V rfl, V rfl, Vj, V rfl, V rfl, V rfl, V rfl, V rfl, Z⟩
   ·exact ⟨⟨_, rfl, rfl⟩, ⟨_, rfl, rfl⟩, ⟨_, rfl, ⟨rfl, rfl, (An rfl)⟩⟩, Z⟩
  ·intro e hdn he hdp
   obtain ⟨h8, h9, -⟩ := (show e 8 = true ∧ e 9 = true ∧ True from hdp)
   obtain ⟨h7, -⟩ := (show e 7 = true ∧ True from hdn 8 h8)
   obtain ⟨h6, -⟩ := (show e 6 = true ∧ True from hdn 7 h7)
   obtain ⟨h5, -⟩ := (show e 5 = true ∧ True from hdn 6 h6)
   have h14 : e 14 = false := fls he fun q => by obtain ⟨r12, -, -⟩ := (show e 12 = true ∧ e 13 = true ∧ True from hdn 14 q); obtain ⟨r11, -⟩ := (show e 11 = true ∧ True from hdn 12 r12); obtain ⟨r10, -⟩ := (show e 10 = true ∧ True from hdn 11 r11); exact r10
   have h17 : e 17 = false := fls he fun q => by obtain ⟨r16, -, -, -, -, -, -, -, -, -, -, -, -, -, -, -, -, -, -⟩ := (show e 16 = true ∧ e 14 = true ∧ e 14 = true ∧ e 0 = true ∧ e 1 = true ∧ e 2 = true ∧ e 3 = true ∧ e 4 = true ∧ e 5 = true ∧ e 6 = true ∧ e 7 = true ∧ e 8 = true ∧ e 9 = true ∧ e 10 = true ∧ e 11 = true ∧ e 12 = true ∧ e 13 = true ∧ e 14 = true ∧ True from hdn 17 q); obtain ⟨r15, -, -, -, -, -, -, -, -, -, -, -, -, -, -, -, -⟩ := (show e 15 = true ∧ e 0 = true ∧ e 1 = true ∧ e 2 = true ∧ e 3 = true ∧ e 4 = true ∧ e 5 = true ∧ e 6 = true ∧ e 7 = true ∧ e 8 = true ∧ e 9 = true ∧ e 10 = true ∧ e 11 = true ∧ e 12 = true ∧ e 13 = true ∧ e 14 = true ∧ True from hdn 16 r16); obtain ⟨-, -, -, -, -, -, -, -, -, -, -, -, -, -, -, -, r14, -⟩ := (show e 3 = true ∧ e 4 = true ∧ e 0 = true ∧ e 1 = true ∧ e 2 = true ∧ e 3 = true ∧ e 4 = true ∧ e 5 = true ∧ e 6 = true ∧ e 7 = true ∧ e 8 = true ∧ e 9 = true ∧ e 10 = true ∧ e 11 = true ∧ e 12 = true ∧ e 13 = true ∧ e 14 = true ∧ True from hdn 15 r15); obtain ⟨r12, -, -⟩ := (show e 12 = true ∧ e 13 = true ∧ True from hdn 14 r14); obtain ⟨r11, -⟩ := (show e 11 = true ∧ True from hdn 12 r12); obtain ⟨r10, -⟩ := (show e 10 = true ∧ True from hdn 11 r11); exact r10
   simp only [setE, h5, h6, h7, h8, h9, he, h14, h17, cj_t, cj_f, cjn_t, cjn_f, cb_t, cb_f]
   refine U (q_idxU (V rfl) rfl (V rfl) ts22 te22 (by omega) (by first | omega | (simp only [List.length_set]; omega))) <| Nt <| We ?_ ?_
   ·exact ⟨V rfl, V rfl, V rfl, V rfl, V rfl, V rfl, V rfl, V rfl, V rfl, V rfl, V rfl, V rfl, V rfl, V rfl, Vj, V rfl, V rfl, V rfl, V rfl, V rfl, Z⟩
   ·exact ⟨⟨_, rfl, rfl⟩, ⟨_, rfl, rfl⟩, ⟨_, rfl, ⟨rfl, rfl, (An rfl)⟩⟩, Z⟩
  ·intro e hdn he hdp
   obtain ⟨h10, -⟩ := (show e 10 = true ∧ True from hdp)
   obtain ⟨h8, h9, -⟩ := (show e 8 = true ∧ e 9 = true ∧ True from hdn 10 h10)
   obtain ⟨h7, -⟩ := (show e 7 = true ∧ True from hdn 8 h8)
   obtain ⟨h6, -⟩ := (show e 6 = true ∧ True from hdn 7 h7)
   obtain ⟨h5, -⟩ := (show e 5 = true ∧ True from hdn 6 h6)
   have h14 : e 14 = false := fls he fun q => by obtain ⟨r12, -, -⟩ := (show e 12 = true ∧ e 13 = true ∧ True from hdn 14 q); obtain ⟨r11, -⟩ := (show e 11 = true ∧ True from hdn 12 r12); exact r11
   have h17 : e 17 = false := fls he fun q => by obtain ⟨r16, -, -, -, -, -, -, -, -, -, -, -, -, -, -, -, -, -, -⟩ := (show e 16 = true ∧ e 14 = true ∧ e 14 = true ∧ e 0 = true ∧ e 1 = true ∧ e 2 = true ∧ e 3 = true ∧ e 4 = true ∧ e 5 = true ∧ e 6 = true ∧ e 7 = true ∧ e 8 = true ∧ e 9 = true ∧ e 10 = true ∧ e 11 = true ∧ e 12 = true ∧ e 13 = true ∧ e 14 = true ∧ True from hdn 17 q); obtain ⟨r15, -, -, -, -, -, -, -, -, -, -, -, -, -, -, -, -⟩ := (show e 15 = true ∧ e 0 = true ∧ e 1 = true ∧ e 2 = true ∧ e 3 = true ∧ e 4 = true ∧ e 5 = true ∧ e 6 = true ∧ e 7 = true ∧ e 8 = true ∧ e 9 = true ∧ e 10 = true ∧ e 11 = true ∧ e 12 = true ∧ e 13 = true ∧ e 14 = true ∧ True from hdn 16 r16); obtain ⟨-, -, -, -, -, -, -, -, -, -, -, -, -, -, -, -, r14, -⟩ := (show e 3 = true ∧ e 4 = true ∧ e 0 = true ∧ e 1 = true ∧ e 2 = true ∧ e 3 = true ∧ e 4 = true ∧ e 5 = true ∧ e 6 = true ∧ e 7 = true ∧ e 8 = true ∧ e 9 = true ∧ e 10 = true ∧ e 11 = true ∧ e 12 = true ∧ e 13 = true ∧ e 14 = true ∧ True from hdn 15 r15); obtain ⟨r12, -, -⟩ := (show e 12 = true ∧ e 13 = true ∧ True from hdn 14 r14); obtain ⟨r11, -⟩ := (show e 11 = true ∧ True from hdn 12 r12); exact r11
   simp only [setE, h5, h6, h7, h8, h9, h10, he, h14, h17, cj_t, cj_f, cjn_t, cjn_f, cb_t, cb_f]
   refine U (FlO _ _ (V rfl) Un61 rfl 0 Sz33) <| Nt <| We ?_ ?_
   ·exact ⟨V rfl, V rfl, V rfl, V rfl, V rfl, V rfl, V rfl, V rfl, V rfl, V rfl, V rfl, V rfl, V rfl, V rfl, Vj, V rfl, V rfl, V rfl, V rfl, V rfl, Z⟩
   ·exact ⟨⟨_, rfl, rfl⟩, ⟨_, rfl, rfl⟩, ⟨_, rfl, ⟨rfl, rfl, (An rfl)⟩⟩, Z⟩
  ·intro e hdn he hdp
   obtain ⟨h11, -⟩ := (show e 11 = true ∧ True from hdp)
   obtain ⟨h10, -⟩ := (show e 10 = true ∧ True from hdn 11 h11)
   obtain ⟨h8, h9, -⟩ := (show e 8 = true ∧ e 9 = true ∧ True from hdn 10 h10)
   obtain ⟨h7, -⟩ := (show e 7 = true ∧ True from hdn 8 h8)
   obtain ⟨h6, -⟩ := (show e 6 = true ∧ True from hdn 7 h7)
   obtain ⟨h5, -⟩ := (show e 5 = true ∧ True from hdn 6 h6)
   have h14 : e 14 = false := fls he fun q => by obtain ⟨r12, -, -⟩ := (show e 12 = true ∧ e 13 = true ∧ True from hdn 14 q); exact r12
   have h17 : e 17 = false := fls he fun q => by obtain ⟨r16, -, -, -, -, -, -, -, -, -, -, -, -, -, -, -, -, -, -⟩ := (show e 16 = true ∧ e 14 = true ∧ e 14 = true ∧ e 0 = true ∧ e 1 = true ∧ e 2 = true ∧ e 3 = true ∧ e 4 = true ∧ e 5 = true ∧ e 6 = true ∧ e 7 = true ∧ e 8 = true ∧ e 9 = true ∧ e 10 = true ∧ e 11 = true ∧ e 12 = true ∧ e 13 = true ∧ e 14 = true ∧ True from hdn 17 q); obtain ⟨r15, -, -, -, -, -, -, -, -, -, -, -, -, -, -, -, -⟩ := (show e 15 = true ∧ e 0 = true ∧ e 1 = true ∧ e 2 = true ∧ e 3 = true ∧ e 4 = true ∧ e 5 = true ∧ e 6 = true ∧ e 7 = true ∧ e 8 = true ∧ e 9 = true ∧ e 10 = true ∧ e 11 = true ∧ e 12 = true ∧ e 13 = true ∧ e 14 = true ∧ True from hdn 16 r16); obtain ⟨-, -, -, -, -, -, -, -, -, -, -, -, -, -, -, -, r14, -⟩ := (show e 3 = true ∧ e 4 = true ∧ e 0 = true ∧ e 1 = true ∧ e 2 = true ∧ e 3 = true ∧ e 4 = true ∧ e 5 = true ∧ e 6 = true ∧ e 7 = true ∧ e 8 = true ∧ e 9 = true ∧ e 10 = true ∧ e 11 = true ∧ e 12 = true ∧ e 13 = true ∧ e 14 = true ∧ True from hdn 15 r15); obtain ⟨r12, -, -⟩ := (show e 12 = true ∧ e 13 = true ∧ True from hdn 14 r14); exact r12
   simp only [setE, h5, h6, h7, h8, h9, h10, h11, he, h14, h17, cj_t, cj_f, cjn_t, cjn_f, cb_t, cb_f]
   refine U (LdU (V rfl) rfl Ga33 (by decide) uat_hole) <| Nt <| We ?_ ?_
   ·exact ⟨V rfl, V rfl, V rfl, V rfl, V rfl, V rfl, V rfl, V rfl, V rfl, V rfl, V rfl, V rfl, V rfl, V rfl, Vj, V rfl, V rfl, V rfl, V rfl, V rfl, Z⟩
   ·exact ⟨⟨_, rfl, rfl⟩, ⟨_, rfl, rfl⟩, ⟨_, rfl, ⟨rfl, rfl, (An rfl)⟩⟩, Z⟩
  ·intro e hdn he hdp
   have h14 : e 14 = false := fls he fun q => by obtain ⟨-, r13, -⟩ := (show e 12 = true ∧ e 13 = true ∧ True from hdn 14 q); exact r13
   have h17 : e 17 = false := fls he fun q => by obtain ⟨r16, -, -, -, -, -, -, -, -, -, -, -, -, -, -, -, -, -, -⟩ := (show e 16 = true ∧ e 14 = true ∧ e 14 = true ∧ e 0 = true ∧ e 1 = true ∧ e 2 = true ∧ e 3 = true ∧ e 4 = true ∧ e 5 = true ∧ e 6 = true ∧ e 7 = true ∧ e 8 = true ∧ e 9 = true ∧ e 10 = true ∧ e 11 = true ∧ e 12 = true ∧ e 13 = true ∧ e 14 = true ∧ True from hdn 17 q); obtain ⟨r15, -, -, -, -, -, -, -, -, -, -, -, -, -, -, -, -⟩ := (show e 15 = true ∧ e 0 = true ∧ e 1 = true ∧ e 2 = true ∧ e 3 = true ∧ e 4 = true ∧ e 5 = true ∧ e 6 = true ∧ e 7 = true ∧ e 8 = true ∧ e 9 = true ∧ e 10 = true ∧ e 11 = true ∧ e 12 = true ∧ e 13 = true ∧ e 14 = true ∧ True from hdn 16 r16); obtain ⟨-, -, -, -, -, -, -, -, -, -, -, -, -, -, -, -, r14, -⟩ := (show e 3 = true ∧ e 4 = true ∧ e 0 = true ∧ e 1 = true ∧ e 2 = true ∧ e 3 = true ∧ e 4 = true ∧ e 5 = true ∧ e 6 = true ∧ e 7 = true ∧ e 8 = true ∧ e 9 = true ∧ e 10 = true ∧ e 11 = true ∧ e 12 = true ∧ e 13 = true ∧ e 14 = true ∧ True from hdn 15 r15); obtain ⟨-, r13, -⟩ := (show e 12 = true ∧ e 13 = true ∧ True from hdn 14 r14); exact r13
   simp only [setE, he, h14, h17, cj_t, cj_f, cjn_t, cjn_f, cb_t, cb_f]
   refine U (Mk (caps := [elB [iv (k)] 0]) ⟨(V rfl), Z⟩) <| Nt <| We ?_ ?_
   ·exact ⟨V rfl, V rfl, V rfl, V rfl, V rfl, V rfl, V rfl, V rfl, V rfl, V rfl, V rfl, V rfl, V rfl, V rfl, Vj, V rfl, V rfl, V rfl, V rfl, V rfl, Z⟩
   ·exact ⟨⟨_, rfl, rfl⟩, ⟨_, rfl, rfl⟩, ⟨_, rfl, ⟨rfl, rfl, (An rfl)⟩⟩, Z⟩
  ·intro e hdn he hdp
   obtain ⟨h12, h13, -⟩ := (show e 12 = true ∧ e 13 = true ∧ True from hdp)
   obtain ⟨h11, -⟩ := (show e 11 = true ∧ True from hdn 12 h12)
   obtain ⟨h10, -⟩ := (show e 10 = true ∧ True from hdn 11 h11)
   obtain ⟨h8, h9, -⟩ := (show e 8 = true ∧ e 9 = true ∧ True from hdn 10 h10)
   obtain ⟨h7, -⟩ := (show e 7 = true ∧ True from hdn 8 h8)
   obtain ⟨h6, -⟩ := (show e 6 = true ∧ True from hdn 7 h7)
   obtain ⟨h5, -⟩ := (show e 5 = true ∧ True from hdn 6 h6)
   have h15 : e 15 = false := fls he fun q => by obtain ⟨-, -, -, -, -, -, -, -, -, -, -, -, -, -, -, -, r14, -⟩ := (show e 3 = true ∧ e 4 = true ∧ e 0 = true ∧ e 1 = true ∧ e 2 = true ∧ e 3 = true ∧ e 4 = true ∧ e 5 = true ∧ e 6 = true ∧ e 7 = true ∧ e 8 = true ∧ e 9 = true ∧ e 10 = true ∧ e 11 = true ∧ e 12 = true ∧ e 13 = true ∧ e 14 = true ∧ True from hdn 15 q); exact r14
   have h16 : e 16 = false := fls he fun q => by obtain ⟨r15, -, -, -, -, -, -, -, -, -, -, -, -, -, -, -, -⟩ := (show e 15 = true ∧ e 0 = true ∧ e 1 = true ∧ e 2 = true ∧ e 3 = true ∧ e 4 = true ∧ e 5 = true ∧ e 6 = true ∧ e 7 = true ∧ e 8 = true ∧ e 9 = true ∧ e 10 = true ∧ e 11 = true ∧ e 12 = true ∧ e 13 = true ∧ e 14 = true ∧ True from hdn 16 q); obtain ⟨-, -, -, -, -, -, -, -, -, -, -, -, -, -, -, -, r14, -⟩ := (show e 3 = true ∧ e 4 = true ∧ e 0 = true ∧ e 1 = true ∧ e 2 = true ∧ e 3 = true ∧ e 4 = true ∧ e 5 = true ∧ e 6 = true ∧ e 7 = true ∧ e 8 = true ∧ e 9 = true ∧ e 10 = true ∧ e 11 = true ∧ e 12 = true ∧ e 13 = true ∧ e 14 = true ∧ True from hdn 15 r15); exact r14
   have h17 : e 17 = false := fls he fun q => by obtain ⟨r16, -, -, -, -, -, -, -, -, -, -, -, -, -, -, -, -, -, -⟩ := (show e 16 = true ∧ e 14 = true ∧ e 14 = true ∧ e 0 = true ∧ e 1 = true ∧ e 2 = true ∧ e 3 = true ∧ e 4 = true ∧ e 5 = true ∧ e 6 = true ∧ e 7 = true ∧ e 8 = true ∧ e 9 = true ∧ e 10 = true ∧ e 11 = true ∧ e 12 = true ∧ e 13 = true ∧ e 14 = true ∧ True from hdn 17 q); obtain ⟨r15, -, -, -, -, -, -, -, -, -, -, -, -, -, -, -, -⟩ := (show e 15 = true ∧ e 0 = true ∧ e 1 = true ∧ e 2 = true ∧ e 3 = true ∧ e 4 = true ∧ e 5 = true ∧ e 6 = true ∧ e 7 = true ∧ e 8 = true ∧ e 9 = true ∧ e 10 = true ∧ e 11 = true ∧ e 12 = true ∧ e 13 = true ∧ e 14 = true ∧ True from hdn 16 r16); obtain ⟨-, -, -, -, -, -, -, -, -, -, -, -, -, -, -, -, r14, -⟩ := (show e 3 = true ∧ e 4 = true ∧ e 0 = true ∧ e 1 = true ∧ e 2 = true ∧ e 3 = true ∧ e 4 = true ∧ e 5 = true ∧ e 6 = true ∧ e 7 = true ∧ e 8 = true ∧ e 9 = true ∧ e 10 = true ∧ e 11 = true ∧ e 12 = true ∧ e 13 = true ∧ e 14 = true ∧ True from hdn 15 r15); exact r14
   simp only [setE, h5, h6, h7, h8, h9, h10, h11, h12, h13, he, h15, h16, h17, cj_t, cj_f, cjn_t, cjn_f, cb_t, cb_f]
   refine CM (cargs := [SV.own 1000, fnA 150 ([elB [iv (k)] 0])]) [(1000, 3)] [(0, 4)] en60 (by exact ⟨(V rfl), (VA (VF [elB [iv (k)] 0] ((V rfl)) (An rfl)) rfl), Z⟩) (del60_ct (fun x => decide (x = k)) en150 rfl (fun x => outK_ct x k) (Nd.kids (l.getD (Int.toNat ((l.getD (Int.toNat k) default).par)) default)) (by omega)) (by exact ⟨⟨_, rfl, rfl⟩, Z⟩) rfl (freshN_cons (fresh_mk ⟨(noId_cj rfl), (noId_cj rfl), (noId_cj rfl), (noId_cj rfl), (noId_cj rfl), rfl, rfl, rfl, rfl, rfl, rfl, rfl, rfl, rfl, rfl, rfl, rfl, rfl, rfl, rfl, Z⟩ rfl rfl) rfl rfl) rfl rfl <| Nt <| We ?_ ?_
   ·exact ⟨V rfl, V rfl, V rfl, V rfl, V rfl, V rfl, V rfl, V rfl, V rfl, V rfl, V rfl, V rfl, V rfl, V rfl, V rfl, Vj, Vj, V rfl, V rfl, V rfl, Z⟩
   ·exact ⟨⟨_, rfl, rfl⟩, ⟨_, rfl, ⟨rfl, rfl, (An rfl)⟩⟩, ⟨_, rfl, rfl⟩, Z⟩
  ·intro e hdn he hdp
   obtain ⟨h3, h4, h0, h1, h2, -, -, h5, h6, h7, h8, h9, h10, h11, h12, h13, h14, -⟩ := (show e 3 = true ∧ e 4 = true ∧ e 0 = true ∧ e 1 = true ∧ e 2 = true ∧ e 3 = true ∧ e 4 = true ∧ e 5 = true ∧ e 6 = true ∧ e 7 = true ∧ e 8 = true ∧ e 9 = true ∧ e 10 = true ∧ e 11 = true ∧ e 12 = true ∧ e 13 = true ∧ e 14 = true ∧ True from hdp)
   have h17 : e 17 = false := fls he fun q => by obtain ⟨r16, -, -, -, -, -, -, -, -, -, -, -, -, -, -, -, -, -, -⟩ := (show e 16 = true ∧ e 14 = true ∧ e 14 = true ∧ e 0 = true ∧ e 1 = true ∧ e 2 = true ∧ e 3 = true ∧ e 4 = true ∧ e 5 = true ∧ e 6 = true ∧ e 7 = true ∧ e 8 = true ∧ e 9 = true ∧ e 10 = true ∧ e 11 = true ∧ e 12 = true ∧ e 13 = true ∧ e 14 = true ∧ True from hdn 17 q); obtain ⟨r15, -, -, -, -, -, -, -, -, -, -, -, -, -, -, -, -⟩ := (show e 15 = true ∧ e 0 = true ∧ e 1 = true ∧ e 2 = true ∧ e 3 = true ∧ e 4 = true ∧ e 5 = true ∧ e 6 = true ∧ e 7 = true ∧ e 8 = true ∧ e 9 = true ∧ e 10 = true ∧ e 11 = true ∧ e 12 = true ∧ e 13 = true ∧ e 14 = true ∧ True from hdn 16 r16); exact r15
   simp only [setE, h0, h1, h2, h3, h4, h5, h6, h7, h8, h9, h10, h11, h12, h13, h14, he, h17, cj_t, cj_f, cjn_t, cjn_f, cb_t, cb_f]
   refine U (q_idxU (V rfl) rfl (V rfl) ts22 te22 (by omega) (by first | omega | (simp only [List.length_set]; omega))) <| Nt <| We ?_ ?_
   ·exact ⟨V rfl, V rfl, V rfl, V rfl, V rfl, V rfl, V rfl, V rfl, V rfl, V rfl, V rfl, V rfl, V rfl, V rfl, V rfl, V rfl, V rfl, V rfl, V rfl, V rfl, Z⟩
   ·exact ⟨⟨_, rfl, rfl⟩, ⟨_, rfl, ⟨rfl, rfl, (An rfl)⟩⟩, ⟨_, rfl, rfl⟩, Z⟩
  ·intro e hdn he hdp
   obtain ⟨h15, h0, h1, h2, h3, h4, h5, h6, h7, h8, h9, h10, h11, h12, h13, h14, -⟩ := (show e 15 = true ∧ e 0 = true ∧ e 1 = true ∧ e 2 = true ∧ e 3 = true ∧ e 4 = true ∧ e 5 = true ∧ e 6 = true ∧ e 7 = true ∧ e 8 = true ∧ e 9 = true ∧ e 10 = true ∧ e 11 = true ∧ e 12 = true ∧ e 13 = true ∧ e 14 = true ∧ True from hdp)
   have h17 : e 17 = false := fls he fun q => by obtain ⟨r16, -, -, -, -, -, -, -, -, -, -, -, -, -, -, -, -, -, -⟩ := (show e 16 = true ∧ e 14 = true ∧ e 14 = true ∧ e 0 = true ∧ e 1 = true ∧ e 2 = true ∧ e 3 = true ∧ e 4 = true ∧ e 5 = true ∧ e 6 = true ∧ e 7 = true ∧ e 8 = true ∧ e 9 = true ∧ e 10 = true ∧ e 11 = true ∧ e 12 = true ∧ e 13 = true ∧ e 14 = true ∧ True from hdn 17 q); exact r16
   simp only [setE, h0, h1, h2, h3, h4, h5, h6, h7, h8, h9, h10, h11, h12, h13, h14, h15, he, h17, cj_t, cj_f, cjn_t, cjn_f, cb_t, cb_f]
   refine U (FlO _ _ (V rfl) Un61 rfl 0 Sz33) <| Nt <| We ?_ ?_
   ·exact ⟨V rfl, V rfl, V rfl, V rfl, V rfl, V rfl, V rfl, V rfl, V rfl, V rfl, V rfl, V rfl, V rfl, V rfl, V rfl, V rfl, V rfl, V rfl, V rfl, V rfl, Z⟩
   ·exact ⟨⟨_, rfl, rfl⟩, ⟨_, rfl, ⟨rfl, rfl, (An rfl)⟩⟩, ⟨_, rfl, rfl⟩, Z⟩
  ·intro e hdn he hdp
   obtain ⟨h16, h14, -, h0, h1, h2, h3, h4, h5, h6, h7, h8, h9, h10, h11, h12, h13, -, -⟩ := (show e 16 = true ∧ e 14 = true ∧ e 14 = true ∧ e 0 = true ∧ e 1 = true ∧ e 2 = true ∧ e 3 = true ∧ e 4 = true ∧ e 5 = true ∧ e 6 = true ∧ e 7 = true ∧ e 8 = true ∧ e 9 = true ∧ e 10 = true ∧ e 11 = true ∧ e 12 = true ∧ e 13 = true ∧ e 14 = true ∧ True from hdp)
   obtain ⟨h15, -, -, -, -, -, -, -, -, -, -, -, -, -, -, -, -⟩ := (show e 15 = true ∧ e 0 = true ∧ e 1 = true ∧ e 2 = true ∧ e 3 = true ∧ e 4 = true ∧ e 5 = true ∧ e 6 = true ∧ e 7 = true ∧ e 8 = true ∧ e 9 = true ∧ e 10 = true ∧ e 11 = true ∧ e 12 = true ∧ e 13 = true ∧ e 14 = true ∧ True from hdn 16 h16)
   simp only [setE, h0, h1, h2, h3, h4, h5, h6, h7, h8, h9, h10, h11, h12, h13, h14, h15, h16, he, cj_t, cj_f, cjn_t, cjn_f, cb_t, cb_f]
   refine t_stH (V rfl) rfl (V rfl) (one_own rfl) Sz33 (by decide) (.inl rfl) <| Nt <| We ?_ ?_
   ·exact ⟨V rfl, V rfl, V rfl, V rfl, V rfl, V rfl, V rfl, V rfl, V rfl, V rfl, V rfl, V rfl, V rfl, V rfl, V rfl, V rfl, V rfl, V rfl, V rfl, V rfl, Z⟩
   ·exact ⟨⟨_, rfl, rfl⟩, ⟨_, rfl, ⟨rfl, rfl, (An rfl)⟩⟩, ⟨_, rfl, rfl⟩, Z⟩
  ·intro e he
   have h0 := he 0 (by decide)
   have h1 := he 1 (by decide)
   have h2 := he 2 (by decide)
   have h3 := he 3 (by decide)
   have h4 := he 4 (by decide)
   have h5 := he 5 (by decide)
   have h6 := he 6 (by decide)
   have h7 := he 7 (by decide)
   have h8 := he 8 (by decide)
   have h9 := he 9 (by decide)
   have h10 := he 10 (by decide)
   have h11 := he 11 (by decide)
   have h12 := he 12 (by decide)
   have h13 := he 13 (by decide)
   have h14 := he 14 (by decide)
   have h15 := he 15 (by decide)
   have h16 := he 16 (by decide)
   have h17 := he 17 (by decide)
   show Weak _ ⟨[(15, cj (e 0) (SV.bp 1000 0)), (16, cj (e 1) (SV.bp 1000 0)), (17, cj (e 2) (SV.bp 1000 0)), (18, cj (e 3) (SV.own 1)), (19, cj (e 4) (iv ((l.getD (Int.toNat k) default).par))), (20, cj (e 5) (SV.bp 1000 0)), (21, cj (e 6) (SV.bp 1000 0)), (22, cj (e 7) (SV.bp 1000 0)), (23, cj (e 8) (SV.own 1)), (24, cj (e 9) (iv ((l.getD (Int.toNat k) default).par))), (25, cj (e 10) (SV.oe 1 8 (Int.toNat ((l.getD (Int.toNat k) default).par)) 0)), (26, cj (e 11) (SV.oe 1 8 (Int.toNat ((l.getD (Int.toNat k) default).par)) 5)), (27, cj (e 12) (SV.own 3)), (28, cj (e 13) (fnL 150 [elB [iv (k)] 0])), (29, cj (e 14) (SV.own 4)), (30, cj (e 15) (SV.oe 1 8 (Int.toNat ((l.getD (Int.toNat k) default).par)) 0)), (31, cj (e 16) (SV.oe 1 8 (Int.toNat ((l.getD (Int.toNat k) default).par)) 5)), (0, SV.bp 1000 0), (3, elB [iv (k)] 0), (4, iv ((l.getD (Int.toNat k) default).par))], (cb (e 14) (cb (e 17) [(1, urowOf ndCell 8 default l 61 5 Nd.kids inCell 1 0 3 l.length (some (Int.toNat ((l.getD (Int.toNat k) default).par), SV.own 4))), (1000, Own.box 1 (fun zt => SV.renm (mvN 1001 1) ((cmpG [SV.own 1001]) zt)) 24), (4, ownOf inCell 1 0 ((Nd.kids (l.getD (Int.toNat ((l.getD (Int.toNat k) default).par)) default)).filter (fun x => !decide (x = k))) 3)] [(1, urowOf ndCell 8 default l 61 5 Nd.kids inCell 1 0 3 l.length (some (Int.toNat ((l.getD (Int.toNat k) default).par), SV.own 3))), (1000, Own.box 1 (fun zt => SV.renm (mvN 1001 1) ((cmpG [SV.own 1001]) zt)) 24), (4, ownOf inCell 1 0 ((Nd.kids (l.getD (Int.toNat ((l.getD (Int.toNat k) default).par)) default)).filter (fun x => !decide (x = k))) 3)]) (cb (e 17) [] [(1, urowOf ndCell 8 default l 61 5 Nd.kids inCell 1 0 3 l.length (some (Int.toNat ((l.getD (Int.toNat k) default).par), SV.own 3))), (3, ownOf inCell 1 0 (Nd.kids (l.getD (Int.toNat ((l.getD (Int.toNat k) default).par)) default)) 3), (1000, Own.box 1 (fun zt => SV.renm (mvN 1001 1) ((cmpG [SV.own 1001]) zt)) 24)]))⟩ _
   simp only [h0, h1, h2, h3, h4, h5, h6, h7, h8, h9, h10, h11, h12, h13, h14, h15, h16, h17]
   show Weak _ ⟨[(15, SV.bp 1000 0), (16, SV.bp 1000 0), (17, SV.bp 1000 0), (18, SV.own 1), (19, iv ((l.getD (Int.toNat k) default).par)), (20, SV.bp 1000 0), (21, SV.bp 1000 0), (22, SV.bp 1000 0), (23, SV.own 1), (24, iv ((l.getD (Int.toNat k) default).par)), (25, SV.oe 1 8 (Int.toNat ((l.getD (Int.toNat k) default).par)) 0), (26, SV.oe 1 8 (Int.toNat ((l.getD (Int.toNat k) default).par)) 5), (27, SV.own 3), (28, fnL 150 [elB [iv (k)] 0]), (29, SV.own 4), (30, SV.oe 1 8 (Int.toNat ((l.getD (Int.toNat k) default).par)) 0), (31, SV.oe 1 8 (Int.toNat ((l.getD (Int.toNat k) default).par)) 5), (0, SV.bp 1000 0), (3, elB [iv (k)] 0), (4, iv ((l.getD (Int.toNat k) default).par))], [(1, urowOf ndCell 8 default l 61 5 Nd.kids inCell 1 0 3 l.length (some (Int.toNat ((l.getD (Int.toNat k) default).par), SV.own 4))), (1000, Own.box 1 (fun zt => SV.renm (mvN 1001 1) ((cmpG [SV.own 1001]) zt)) 24), (4, ownOf inCell 1 0 ((Nd.kids (l.getD (Int.toNat ((l.getD (Int.toNat k) default).par)) default)).filter (fun x => !decide (x = k))) 3)]⟩ _
   refine We ?_ ?_
   ·exact ⟨V rfl, V rfl, V rfl, V rfl, V rfl, V rfl, V rfl, V rfl, V rfl, V rfl, V rfl, V rfl, V rfl, VF [elB [iv (k)] 0] (V rfl) (An rfl), V rfl, V rfl, V rfl, V rfl, V rfl, V rfl, Z⟩
   ·exact ⟨⟨_, rfl, rfl⟩, ⟨_, rfl, ⟨rfl, rfl, (An rfl)⟩⟩, ⟨_, rfl, rfl⟩, Z⟩
  refine c_rd (fun e => ⟨[(32, cj (e 0) (SV.bp 1000 0)), (33, cj (e 1) (SV.bp 1000 0)), (34, cj (e 2) (SV.bp 1000 0)), (35, cj (e 3) (SV.own 1)), (36, cj (e 4) (iv (k))), (37, cj (e 5) (SV.oe 1 8 (Int.toNat k) 0)), (38, cj (e 6) (SV.oe 1 8 (Int.toNat k) 4)), (0, SV.bp 1000 0), (3, elB [iv (k)] 0)], (cb (e 7) [(1, urowOf ndCell 8 default (l.set (Int.toNat k) ({ (l.getD (Int.toNat k) default) with par := (-1) })) 61 5 Nd.kids inCell 1 0 3 l.length (some (Int.toNat ((l.getD (Int.toNat k) default).par), SV.own 4))), (4, ownOf inCell 1 0 ((Nd.kids (l.getD (Int.toNat ((l.getD (Int.toNat k) default).par)) default)).filter (fun x => !decide (x = k))) 3), (1000, Own.box 1 (fun zt => SV.renm (mvN 1001 1) ((cmpG [SV.own 1001]) zt)) 24)] [(1, urowOf ndCell 8 default l 61 5 Nd.kids inCell 1 0 3 l.length (some (Int.toNat ((l.getD (Int.toNat k) default).par), SV.own 4))), (4, ownOf inCell 1 0 ((Nd.kids (l.getD (Int.toNat ((l.getD (Int.toNat k) default).par)) default)).filter (fun x => !decide (x = k))) 3), (1000, Own.box 1 (fun zt => SV.renm (mvN 1001 1) ((cmpG [SV.own 1001]) zt)) 24)])⟩) ⟨[(32, SV.bp 1000 0), (33, SV.bp 1000 0), (34, SV.bp 1000 0), (35, SV.own 1), (36, iv (k)), (37, SV.oe 1 8 (Int.toNat k) 0), (38, SV.oe 1 8 (Int.toNat k) 4), (0, SV.bp 1000 0), (3, elB [iv (k)] 0)], [(1, urowOf ndCell 8 default (l.set (Int.toNat k) ({ (l.getD (Int.toNat k) default) with par := (-1) })) 61 5 Nd.kids inCell 1 0 3 l.length (some (Int.toNat ((l.getD (Int.toNat k) default).par), SV.own 4))), (4, ownOf inCell 1 0 ((Nd.kids (l.getD (Int.toNat ((l.getD (Int.toNat k) default).par)) default)).filter (fun x => !decide (x = k))) 3), (1000, Own.box 1 (fun zt => SV.renm (mvN 1001 1) ((cmpG [SV.own 1001]) zt)) 24)]⟩ (by kernel_rfl) (by kernel_rfl) ?_ ⟨?_, ?_, ?_, ?_, ?_, ?_, ?_, ?_, Z⟩ ?_ ?_
  ·show Weak _ _ ⟨[(32, SV.junk), (33, SV.junk), (34, SV.junk), (35, SV.junk), (36, SV.junk), (37, SV.junk), (38, SV.junk), (0, SV.bp 1000 0), (3, elB [iv (k)] 0)], [(1, urowOf ndCell 8 default l 61 5 Nd.kids inCell 1 0 3 l.length (some (Int.toNat ((l.getD (Int.toNat k) default).par), SV.own 4))), (4, ownOf inCell 1 0 ((Nd.kids (l.getD (Int.toNat ((l.getD (Int.toNat k) default).par)) default)).filter (fun x => !decide (x = k))) 3), (1000, Own.box 1 (fun zt => SV.renm (mvN 1001 1) ((cmpG [SV.own 1001]) zt)) 24)]⟩
   refine We ?_ ?_
   ·exact ⟨Vj, Vj, Vj, Vj, Vj, Vj, Vj, V rfl, V rfl, Z⟩
   ·exact ⟨⟨_, rfl, rfl⟩, ⟨_, rfl, rfl⟩, ⟨_, rfl, ⟨rfl, rfl, (An rfl)⟩⟩, Z⟩
  ·intro e hdn he hdp
   have h7 : e 7 = false := fls he fun q => by obtain ⟨r6, -, -, -, -, -, -⟩ := (show e 6 = true ∧ e 0 = true ∧ e 1 = true ∧ e 2 = true ∧ e 3 = true ∧ e 4 = true ∧ True from hdn 7 q); obtain ⟨r5, -, -, -, -, -, -⟩ := (show e 5 = true ∧ e 0 = true ∧ e 1 = true ∧ e 2 = true ∧ e 3 = true ∧ e 4 = true ∧ True from hdn 6 r6); obtain ⟨r3, -, -, -, -, -, -, -⟩ := (show e 3 = true ∧ e 4 = true ∧ e 0 = true ∧ e 1 = true ∧ e 2 = true ∧ e 3 = true ∧ e 4 = true ∧ True from hdn 5 r5); obtain ⟨r2, -⟩ := (show e 2 = true ∧ True from hdn 3 r3); obtain ⟨r1, -⟩ := (show e 1 = true ∧ True from hdn 2 r2); obtain ⟨r0, -⟩ := (show e 0 = true ∧ True from hdn 1 r1); exact r0
   simp only [setE, he, h7, cj_t, cj_f, cjn_t, cjn_f, cb_t, cb_f]
   refine U (Mv (V rfl)) <| Nt <| We ?_ ?_
   ·exact ⟨V rfl, V rfl, V rfl, V rfl, V rfl, V rfl, V rfl, V rfl, V rfl, Z⟩
   ·exact ⟨⟨_, rfl, rfl⟩, ⟨_, rfl, rfl⟩, ⟨_, rfl, ⟨rfl, rfl, (An rfl)⟩⟩, Z⟩
  ·intro e hdn he hdp
   obtain ⟨h0, -⟩ := (show e 0 = true ∧ True from hdp)
   have h7 : e 7 = false := fls he fun q => by obtain ⟨r6, -, -, -, -, -, -⟩ := (show e 6 = true ∧ e 0 = true ∧ e 1 = true ∧ e 2 = true ∧ e 3 = true ∧ e 4 = true ∧ True from hdn 7 q); obtain ⟨r5, -, -, -, -, -, -⟩ := (show e 5 = true ∧ e 0 = true ∧ e 1 = true ∧ e 2 = true ∧ e 3 = true ∧ e 4 = true ∧ True from hdn 6 r6); obtain ⟨r3, -, -, -, -, -, -, -⟩ := (show e 3 = true ∧ e 4 = true ∧ e 0 = true ∧ e 1 = true ∧ e 2 = true ∧ e 3 = true ∧ e 4 = true ∧ True from hdn 5 r5); obtain ⟨r2, -⟩ := (show e 2 = true ∧ True from hdn 3 r3); obtain ⟨r1, -⟩ := (show e 1 = true ∧ True from hdn 2 r2); exact r1
   simp only [setE, h0, he, h7, cj_t, cj_f, cjn_t, cjn_f, cb_t, cb_f]
   refine U (q_nilB (V rfl)) <| Nt <| We ?_ ?_
   ·exact ⟨V rfl, V rfl, V rfl, V rfl, V rfl, V rfl, V rfl, V rfl, V rfl, Z⟩
   ·exact ⟨⟨_, rfl, rfl⟩, ⟨_, rfl, rfl⟩, ⟨_, rfl, ⟨rfl, rfl, (An rfl)⟩⟩, Z⟩
  ·intro e hdn he hdp
   obtain ⟨h1, -⟩ := (show e 1 = true ∧ True from hdp)
   obtain ⟨h0, -⟩ := (show e 0 = true ∧ True from hdn 1 h1)
   have h7 : e 7 = false := fls he fun q => by obtain ⟨r6, -, -, -, -, -, -⟩ := (show e 6 = true ∧ e 0 = true ∧ e 1 = true ∧ e 2 = true ∧ e 3 = true ∧ e 4 = true ∧ True from hdn 7 q); obtain ⟨r5, -, -, -, -, -, -⟩ := (show e 5 = true ∧ e 0 = true ∧ e 1 = true ∧ e 2 = true ∧ e 3 = true ∧ e 4 = true ∧ True from hdn 6 r6); obtain ⟨r3, -, -, -, -, -, -, -⟩ := (show e 3 = true ∧ e 4 = true ∧ e 0 = true ∧ e 1 = true ∧ e 2 = true ∧ e 3 = true ∧ e 4 = true ∧ True from hdn 5 r5); obtain ⟨r2, -⟩ := (show e 2 = true ∧ True from hdn 3 r3); exact r2
   simp only [setE, h0, h1, he, h7, cj_t, cj_f, cjn_t, cjn_f, cb_t, cb_f]
   refine U (FlB _ _ (V rfl) Un24 rfl 0 Sz22) <| Nt <| We ?_ ?_
   ·exact ⟨V rfl, V rfl, V rfl, V rfl, V rfl, V rfl, V rfl, V rfl, V rfl, Z⟩
   ·exact ⟨⟨_, rfl, rfl⟩, ⟨_, rfl, rfl⟩, ⟨_, rfl, ⟨rfl, rfl, (An rfl)⟩⟩, Z⟩
  ·intro e hdn he hdp
   obtain ⟨h2, -⟩ := (show e 2 = true ∧ True from hdp)
   obtain ⟨h1, -⟩ := (show e 1 = true ∧ True from hdn 2 h2)
   obtain ⟨h0, -⟩ := (show e 0 = true ∧ True from hdn 1 h1)
   have h7 : e 7 = false := fls he fun q => by obtain ⟨r6, -, -, -, -, -, -⟩ := (show e 6 = true ∧ e 0 = true ∧ e 1 = true ∧ e 2 = true ∧ e 3 = true ∧ e 4 = true ∧ True from hdn 7 q); obtain ⟨r5, -, -, -, -, -, -⟩ := (show e 5 = true ∧ e 0 = true ∧ e 1 = true ∧ e 2 = true ∧ e 3 = true ∧ e 4 = true ∧ True from hdn 6 r6); obtain ⟨r3, -, -, -, -, -, -, -⟩ := (show e 3 = true ∧ e 4 = true ∧ e 0 = true ∧ e 1 = true ∧ e 2 = true ∧ e 3 = true ∧ e 4 = true ∧ True from hdn 5 r5); exact r3
   simp only [setE, h0, h1, h2, he, h7, cj_t, cj_f, cjn_t, cjn_f, cb_t, cb_f]
   refine U (LdB (V rfl) rfl Ga22 (by decide)) <| Nt <| We ?_ ?_
   ·exact ⟨V rfl, V rfl, V rfl, V rfl, V rfl, V rfl, V rfl, V rfl, V rfl, Z⟩
   ·exact ⟨⟨_, rfl, rfl⟩, ⟨_, rfl, rfl⟩, ⟨_, rfl, ⟨rfl, rfl, (An rfl)⟩⟩, Z⟩
  ·intro e hdn he hdp
   have h7 : e 7 = false := fls he fun q => by obtain ⟨r6, -, -, -, -, -, -⟩ := (show e 6 = true ∧ e 0 = true ∧ e 1 = true ∧ e 2 = true ∧ e 3 = true ∧ e 4 = true ∧ True from hdn 7 q); obtain ⟨r5, -, -, -, -, -, -⟩ := (show e 5 = true ∧ e 0 = true ∧ e 1 = true ∧ e 2 = true ∧ e 3 = true ∧ e 4 = true ∧ True from hdn 6 r6); obtain ⟨-, r4, -, -, -, -, -, -⟩ := (show e 3 = true ∧ e 4 = true ∧ e 0 = true ∧ e 1 = true ∧ e 2 = true ∧ e 3 = true ∧ e 4 = true ∧ True from hdn 5 r5); exact r4
   simp only [setE, he, h7, cj_t, cj_f, cjn_t, cjn_f, cb_t, cb_f]
   refine U (Ld (V rfl) Ga3 (by show 0 < 1; decide)) <| Nt <| We ?_ ?_
   ·exact ⟨V rfl, V rfl, V rfl, V rfl, V rfl, V rfl, V rfl, V rfl, V rfl, Z⟩
   ·exact ⟨⟨_, rfl, rfl⟩, ⟨_, rfl, rfl⟩, ⟨_, rfl, ⟨rfl, rfl, (An rfl)⟩⟩, Z⟩
  ·intro e hdn he hdp
   obtain ⟨h3, h4, h0, h1, h2, -, -, -⟩ := (show e 3 = true ∧ e 4 = true ∧ e 0 = true ∧ e 1 = true ∧ e 2 = true ∧ e 3 = true ∧ e 4 = true ∧ True from hdp)
   have h7 : e 7 = false := fls he fun q => by obtain ⟨r6, -, -, -, -, -, -⟩ := (show e 6 = true ∧ e 0 = true ∧ e 1 = true ∧ e 2 = true ∧ e 3 = true ∧ e 4 = true ∧ True from hdn 7 q); obtain ⟨r5, -, -, -, -, -, -⟩ := (show e 5 = true ∧ e 0 = true ∧ e 1 = true ∧ e 2 = true ∧ e 3 = true ∧ e 4 = true ∧ True from hdn 6 r6); exact r5
   simp only [setE, h0, h1, h2, h3, h4, he, h7, cj_t, cj_f, cjn_t, cjn_f, cb_t, cb_f]
   refine U (q_idxU (V rfl) rfl (V rfl) ts22 te22 (by omega) (by first | omega | (simp only [List.length_set]; omega))) <| Nt <| We ?_ ?_
   ·exact ⟨V rfl, V rfl, V rfl, V rfl, V rfl, V rfl, V rfl, V rfl, V rfl, Z⟩
   ·exact ⟨⟨_, rfl, rfl⟩, ⟨_, rfl, rfl⟩, ⟨_, rfl, ⟨rfl, rfl, (An rfl)⟩⟩, Z⟩
  ·intro e hdn he hdp
   obtain ⟨h5, h0, h1, h2, h3, h4, -⟩ := (show e 5 = true ∧ e 0 = true ∧ e 1 = true ∧ e 2 = true ∧ e 3 = true ∧ e 4 = true ∧ True from hdp)
   have h7 : e 7 = false := fls he fun q => by obtain ⟨r6, -, -, -, -, -, -⟩ := (show e 6 = true ∧ e 0 = true ∧ e 1 = true ∧ e 2 = true ∧ e 3 = true ∧ e 4 = true ∧ True from hdn 7 q); exact r6
   simp only [setE, h0, h1, h2, h3, h4, h5, he, h7, cj_t, cj_f, cjn_t, cjn_f, cb_t, cb_f]
   refine U (FlO _ _ (V rfl) Un61 rfl 0 Sz3) <| Nt <| We ?_ ?_
   ·exact ⟨V rfl, V rfl, V rfl, V rfl, V rfl, V rfl, V rfl, V rfl, V rfl, Z⟩
   ·exact ⟨⟨_, rfl, rfl⟩, ⟨_, rfl, rfl⟩, ⟨_, rfl, ⟨rfl, rfl, (An rfl)⟩⟩, Z⟩
  ·intro e hdn he hdp
   obtain ⟨h6, h0, h1, h2, h3, h4, -⟩ := (show e 6 = true ∧ e 0 = true ∧ e 1 = true ∧ e 2 = true ∧ e 3 = true ∧ e 4 = true ∧ True from hdp)
   obtain ⟨h5, -, -, -, -, -, -⟩ := (show e 5 = true ∧ e 0 = true ∧ e 1 = true ∧ e 2 = true ∧ e 3 = true ∧ e 4 = true ∧ True from hdn 6 h6)
   simp only [setE, h0, h1, h2, h3, h4, h5, h6, he, cj_t, cj_f, cjn_t, cjn_f, cb_t, cb_f]
   refine t_stUT ({ (l.getD (Int.toNat k) default) with par := (-1) }) (V rfl) rfl K rfl rfl Sz3 (by decide) (by decide) (by first | omega | (simp only [List.length_set]; omega)) rfl (fun t ht hne => match t, ht, hne with | 0, _, _ => rfl | 1, _, _ => rfl | 2, _, _ => rfl | 3, _, _ => rfl | 4, _, hne => absurd rfl hne | 5, _, _ => rfl | 6, _, _ => rfl | 7, _, _ => rfl) rfl <| Nt <| We ?_ ?_
   ·exact ⟨V rfl, V rfl, V rfl, V rfl, V rfl, V rfl, V rfl, V rfl, V rfl, Z⟩
   ·exact ⟨⟨_, rfl, rfl⟩, ⟨_, rfl, rfl⟩, ⟨_, rfl, ⟨rfl, rfl, (An rfl)⟩⟩, Z⟩
  ·intro e he
   have h0 := he 0 (by decide)
   have h1 := he 1 (by decide)
   have h2 := he 2 (by decide)
   have h3 := he 3 (by decide)
   have h4 := he 4 (by decide)
   have h5 := he 5 (by decide)
   have h6 := he 6 (by decide)
   have h7 := he 7 (by decide)
   show Weak _ ⟨[(32, cj (e 0) (SV.bp 1000 0)), (33, cj (e 1) (SV.bp 1000 0)), (34, cj (e 2) (SV.bp 1000 0)), (35, cj (e 3) (SV.own 1)), (36, cj (e 4) (iv (k))), (37, cj (e 5) (SV.oe 1 8 (Int.toNat k) 0)), (38, cj (e 6) (SV.oe 1 8 (Int.toNat k) 4)), (0, SV.bp 1000 0), (3, elB [iv (k)] 0)], (cb (e 7) [(1, urowOf ndCell 8 default (l.set (Int.toNat k) ({ (l.getD (Int.toNat k) default) with par := (-1) })) 61 5 Nd.kids inCell 1 0 3 l.length (some (Int.toNat ((l.getD (Int.toNat k) default).par), SV.own 4))), (4, ownOf inCell 1 0 ((Nd.kids (l.getD (Int.toNat ((l.getD (Int.toNat k) default).par)) default)).filter (fun x => !decide (x = k))) 3), (1000, Own.box 1 (fun zt => SV.renm (mvN 1001 1) ((cmpG [SV.own 1001]) zt)) 24)] [(1, urowOf ndCell 8 default l 61 5 Nd.kids inCell 1 0 3 l.length (some (Int.toNat ((l.getD (Int.toNat k) default).par), SV.own 4))), (4, ownOf inCell 1 0 ((Nd.kids (l.getD (Int.toNat ((l.getD (Int.toNat k) default).par)) default)).filter (fun x => !decide (x = k))) 3), (1000, Own.box 1 (fun zt => SV.renm (mvN 1001 1) ((cmpG [SV.own 1001]) zt)) 24)])⟩ _
   simp only [h0, h1, h2, h3, h4, h5, h6, h7]
   show Weak _ ⟨[(32, SV.bp 1000 0), (33, SV.bp 1000 0), (34, SV.bp 1000 0), (35, SV.own 1), (36, iv (k)), (37, SV.oe 1 8 (Int.toNat k) 0), (38, SV.oe 1 8 (Int.toNat k) 4), (0, SV.bp 1000 0), (3, elB [iv (k)] 0)], [(1, urowOf ndCell 8 default (l.set (Int.toNat k) ({ (l.getD (Int.toNat k) default) with par := (-1) })) 61 5 Nd.kids inCell 1 0 3 l.length (some (Int.toNat ((l.getD (Int.toNat k) default).par), SV.own 4))), (4, ownOf inCell 1 0 ((Nd.kids (l.getD (Int.toNat ((l.getD (Int.toNat k) default).par)) default)).filter (fun x => !decide (x = k))) 3), (1000, Own.box 1 (fun zt => SV.renm (mvN 1001 1) ((cmpG [SV.own 1001]) zt)) 24)]⟩ _
   refine We ?_ ?_
   ·exact ⟨V rfl, V rfl, V rfl, V rfl, V rfl, V rfl, V rfl, V rfl, V rfl, Z⟩
   ·exact ⟨⟨_, rfl, rfl⟩, ⟨_, rfl, rfl⟩, ⟨_, rfl, ⟨rfl, rfl, (An rfl)⟩⟩, Z⟩
  exact k_mv 1 0 rfl rfl <| Tk (turn_joinT 0 (Int.toNat ((l.getD (Int.toNat k) default).par)) 4 l.length ({ ((l.set (Int.toNat k) ({ (l.getD (Int.toNat k) default) with par := (-1) })).getD (Int.toNat ((l.getD (Int.toNat k) default).par)) default) with kids := (Nd.kids (l.getD (Int.toNat ((l.getD (Int.toNat k) default).par)) default)).filter (fun x => !decide (x = k)) }) rfl rfl rfl (by first | omega | (simp only [List.length_set]; omega)) (by omega) (by rw [if_pos (by omega)]) rfl rfl (fun t ht hne => match t, ht, hne with | 0, _, _ => rfl | 1, _, _ => rfl | 2, _, _ => rfl | 3, _, _ => rfl | 4, _, _ => rfl | 5, _, hne => absurd rfl hne | 6, _, _ => rfl | 7, _, _ => rfl) rfl) <| k_uE 0 (outSt l k) l.length rfl (by exact out_alt hc hk hc1s) (by first | rfl | omega) <| endM0 rfl (by exact ⟨⟨_, rfl, ⟨rfl, rfl, (An rfl)⟩⟩, ⟨_, rfl, rfl⟩, Z⟩) rfl
 ·have hc1s := hc1; try simp only [BL] at hc1s
  exact Sk <| k_mv 1 0 rfl rfl <| k_uE 0 (outSt l k) l.length rfl (by rw [outSt, if_neg hc1s]) (by first | rfl | omega) <| endM0 rfl (by exact ⟨⟨_, rfl, ⟨rfl, rfl, (An rfl)⟩⟩, ⟨_, rfl, rfl⟩, Z⟩) rfl
end Go.Proofs.Ytmcdamcedemdiaa
namespace Go.Proofs.Ytmcdamcedemdiaa
open Go.RowKit Go.Eng
theorem ins0_ct (l : List Int) (i : Nat) (hi : i ≤ l.length) : CtM Try.prog 98 [SV.own 1000, iv ((i : Int)), inRow ([])] [(1000, ownOf inCell 1 0 l 3)] (SV.own 0) [(0, ownOf inCell 1 0 l 3)] := by
 refine CmO 95 Try.func98 rfl rfl rfl fun E => Sq <| Rq <| O (As (Vn (k := 1) (get := rowG inCell 0 []))) <| Nq <| Sq <| Rq <| O (Mv (V rfl)) <| O (Mv (V rfl)) <| O (q_slOL ts33 te33 (V rfl) rfl (V rfl) (by omega) (by omega)) <| Nq <| Sq <| Rq <| O (Mv (V rfl)) <| O (Ln (V rfl) ts33) <| O (As (V rfl)) <| Nq <| Sq <| Sq <| Rq <| O (Mv (V rfl)) <| O (Ql (V rfl) K) <| Nq <| Cd (V rfl) (fun hc1 => ?_) (fun hc1 => ?_)
 ·have hc1s := hc1; try simp only [BL] at hc1s
  exact Sq <| Rq <| O (Mv (V rfl)) <| O (As (V rfl)) <| Nq <| c_mv 1000 0 rfl rfl <| Rx <| M1 rfl (V rfl) (by exact ⟨⟨_, rfl, rfl⟩, Z⟩) (by show SV.own 0 = SV.own 0; rfl)
 ·have hc1s := hc1; try simp only [BL] at hc1s
  exact absurd hc1 (by simp)
  --done
theorem insE_ct (l v : List Int) (i : Nat) (hi : i = l.length) (hv : 0 < v.length) (hl : l.length + v.length ≤ 1000) : CtM Try.prog 98 [SV.own 1000, iv ((i : Int)), inRow v] [(1000, ownOf inCell 1 0 l 3)] (SV.own 0) [(0, ownOf inCell 1 0 (l ++ v) 3)] := by
 refine CmO 95 Try.func98 rfl rfl rfl fun E => Sq <| Rq <| O (As (Vn (k := 1) (get := rowG inCell 0 []))) <| Nq <| Sq <| Rq <| O (Mv (V rfl)) <| O (Mv (V rfl)) <| O (q_slOL ts33 te33 (V rfl) rfl (V rfl) (by omega) (by omega)) <| Nq <| Sq <| Rq <| O (Mv (V rfl)) <| O (Ln (V rfl) ts33) <| O (As (V rfl)) <| Nq <| Sq <| Sq <| Rq <| O (Mv (V rfl)) <| O (Ql (V rfl) K) <| Nq <| Cd (V rfl) (fun hc1 => ?_) (fun hc1 => ?_)
 ·have hc1s := hc1; try simp only [BL] at hc1s
  exact absurd hc1s (by omega)
  --done
 ·have hc1s := hc1; try simp only [BL] at hc1s
  refine Sk <| Sq <| Rq <| O (Mv (V rfl)) <| O (LnO (V rfl) rfl ts33) <| O (As (V rfl)) <| Nq <| Sq <| Sq <| Rq <| O (Mv (V rfl)) <| O (Mv (V rfl)) <| O (Ql (V rfl) (V rfl)) <| Nq <| Cd (V rfl) (fun hc2 => ?_) (fun hc2 => ?_)
  ·have hc2s := hc2; try simp only [BL] at hc2s
   exact Sq <| Rt <| U (Mv (V rfl)) <| U (Mv (V rfl)) <| Ap 1 (rowG inCell 0 (l ++ v)) eo33 (V rfl) rfl (V rfl) rfl (len_app l v) (by first | (simp only [maxLen, List.length_append, List.length_set, List.length_nil, List.length_cons]; omega) | (simp only [maxLen]; omega)) (by first | (simp only [List.length_append, List.length_set, List.length_nil, List.length_cons]; omega) | (omega)) (app_typed (l := l) (m := v)) <| U (As (V rfl)) <| Nt <| c_mv 1 0 rfl rfl <| Rx <| M1 rfl (V rfl) (by exact ⟨⟨_, rfl, rfl⟩, Z⟩) (by show SV.own 0 = SV.own 0; rfl)
  ·have hc2s := hc2; try simp only [BL] at hc2s
   exact absurd hc2s (by omega)
   --done
end Go.Proofs.Ytmcdamcedemdiaa
namespace Go.Proofs.Ytmcdamcedemdiaa
open Go.RowKit Go.Eng Go.Shelf
def rho : Ren := ⟨fun | 21 => 98 | 27 => 144 | 28 => 145 | 35 => 153 | 39 => 154 | n => n, fun | 22 => 33 | n => n, fun n => n⟩
theorem lay21 : Lays2.n21 Try.prog rho := {
  mixed := by kernel_rfl,
  f21 := by kernel_rfl,
  f27 := by kernel_rfl,
  f28 := by kernel_rfl,
  f35 := by kernel_rfl,
  f39 := by kernel_rfl,
  t0 := by kernel_rfl,
  a0 := fun w => by kernel_rfl,
  z0 := fun w => by kernel_rfl,
  v0 := fun w => by kernel_rfl,
  t3 := by kernel_rfl,
  a3 := fun w => by kernel_rfl,
  z3 := fun w => by kernel_rfl,
  v3 := fun w => by kernel_rfl,
  t4 := by kernel_rfl,
  a4 := fun w => by kernel_rfl,
  z4 := fun w => by kernel_rfl,
  v4 := fun w => by kernel_rfl,
  t22 := by kernel_rfl,
  a22 := fun w => by kernel_rfl,
  z22 := fun w => by kernel_rfl,
  v22 := fun w => by kernel_rfl,
  i3 := by kernel_rfl }
theorem frozen_own {w : World} {g o : Nat} {cur : Array Value} {e : TypeId} (h : w.heap[g]? = some (.cells cur e (0, 0))) : w.frozen? ⟨g, o, none⟩ = false := by simp [World.frozen?, h]
theorem run_ov {P : Program} (w : World) (tS tR e : TypeId) (ht : P.underlying tS = some (.slice e)) (hz : ∀ w, (Go.sizeOf e).run P w = .ok 1 w) (a b : Addr) (la ca lb cb : Nat) (hne : a.block ≠ b.block)
    {ca' cb' : Array Value} {ea eb : TypeId} {fa : Nat × Nat} (hA : w.heap[a.block]? = some (.cells ca' ea fa)) (hB : w.heap[b.block]? = some (.cells cb' eb (0, 0))) (hA0 : 0 < ca'.size) (hB0 : 0 < cb'.size) :
    (Extern.SlicesOverlaps.overlaps #[tS, tS] #[tR] #[.slice (some a) la ca, .slice (some b) lb cb]).run P w = .ok (.bool false) w := by
  have hnb : (a.block != b.block) = true := by simpa using hne
  have hnb' : (a.block == b.block) = false := by simpa using hne
  have s1 : w.shape? a.block = some (ea, ca'.size) := by simp [World.shape?, hA]
  have s2 : w.shape? b.block = some (eb, cb'.size) := by simp [World.shape?, hB]
  have f2 : w.frozen? b = false := by simp [World.frozen?, hB]
  have f3 : w.frozen? { block := b.block, off := cb'.size } = false := by simp [World.frozen?, hB]
  obtain ⟨q, hq⟩ : ∃ q, cb'.size = q + 1 := ⟨cb'.size - 1, by omega⟩
  obtain ⟨q', hq'⟩ : ∃ q, ca'.size = q + 1 := ⟨ca'.size - 1, by omega⟩
  rw [hq] at s2 f3
  rw [hq'] at s1
  delta Extern.SlicesOverlaps.overlaps
  conv => lhs; arg 2; whnf
  simp only [Sem.run, Sem.bind]
  rw [show P.underlying #[tS, tS][0] = some (.slice e) from ht]
  show Sem.run P (sizeOf e >>= _) w = _
  by_cases h0 : la = 0 ∨ lb = 0
  · simp [hz, h0]
  · cases hf : w.frozen? a <;> cases hf2 : w.frozen? { block := a.block, off := q' + 1 } <;>
    simp [hz, h0, hne, hnb, hnb', frozen, noView, viewAt, mayBeOne, stringish, shape, Sem.run, s1, s2, f2, f3, hf, hf2]
theorem some_cells (b : Nat) (vs : List Value) (o : Nat) (w : World) (h : ∀ j, j < vs.length → (w.cell? ⟨b, o + j, none⟩).isSome = true) (k : Nat) (hk : (w.cell? ⟨b, k, none⟩).isSome = true) : ((w.setCells b o vs).cell? ⟨b, k, none⟩).isSome = true := by
  by_cases hin : o ≤ k ∧ k < o + vs.length
  · obtain ⟨q, rfl⟩ := Nat.exists_eq_add_of_le hin.1
    rw [World.cell?_setCells_in b vs o w h q (by omega)]; rfl
  · rw [World.cell?_setCells_out b vs o w ⟨b, k, none⟩ (fun _ _ => by show k < o ∨ o + vs.length ≤ k; omega)]
    exact hk
set_option maxHeartbeats 4000000 in
set_option maxRecDepth 100000 in
theorem ins_shift (b n c i vb voff m vc : Nat) (cs vs : List Value) (w : World) {cur vcur : Array Value} {ve : TypeId} {vf : Nat × Nat} (hh : w.heap[b]? = some (.cells cur 3 (0, 0))) (hcur : cur.size = c) (hvh : w.heap[vb]? = some (.cells vcur ve vf)) (hvc : 0 < vcur.size)
    (hi : i < n) (hm : 0 < m) (hroom : n + m ≤ c) (hc63 : c ≤ 9223372036854775807) (hvb : vb ≠ b) (hcl : cs.length = n) (hvl : vs.length = m)
    (hcs : ∀ j v, cs[j]? = some v → w.cell? ⟨b, j, none⟩ = some v) (hvs : ∀ j v, vs[j]? = some v → w.cell? ⟨vb, voff + j, none⟩ = some v) (h1c : ∀ v ∈ cs, v.oneCell' = true) (h1v : ∀ v ∈ vs, v.oneCell' = true) :
    Calls Try.prog 98 #[.slice (some ⟨b, 0, none⟩) n c, .int .i64 i, .slice (some ⟨vb, voff, none⟩) m vc] w fun e w' =>
      e = .returned (.slice (some ⟨b, 0, none⟩) (n + m) c) ∧ w' = (w.drew.setCells b (i + m) (cs.drop i)).setCells b i vs := by
  have L := lay21
  have mixed := L.mixed
  have hz1 : ¬ ((m : Int) = 0) := by omega
  have hz2 : ¬ ((i : Int) = (n : Int)) := by omega
  have hz3 : ¬ ((c : Int) < (n : Int) + (m : Int)) := by omega
  have hw1 : IntKind.i64.wrap ((i : Int) + (m : Int)) = (i : Int) + (m : Int) := by rw [IntKind.wrap_i64]; omega
  have hw2 : IntKind.i64.wrap ((n : Int) + (m : Int)) = (n : Int) + (m : Int) := by rw [IntKind.wrap_i64]; omega
  have hb1 : (0 : Int) ≤ (i : Int) + (m : Int) := by omega
  have hin : i ≤ n := by omega
  have htn : ((i : Int) + (m : Int)).toNat = i + m := by omega
  have htn2 : ((n : Int) + (m : Int)).toNat = n + m := by omega
  have hb2 : ¬ (c = i + m) := by omega
  have hb3 : (i : Int) ≤ (n : Int) + (m : Int) := by omega
  have hb4 : ¬ (c = i) := by omega
  have hsz : (Try.prog.info? 3).map (·.size) = some 1 := by kernel_rfl
  have hsp : ∀ j, j < n + m → (w.cell? ⟨b, j, none⟩).isSome = true := fun j hj => by
    rw [cell_of_row w b j cur 3 (0, 0) hh, Array.getElem?_eq_getElem (by omega)]; rfl
  have hfz : ∀ j, w.frozen? ⟨b, j, none⟩ = false := fun j => frozen_own hh
  have hov : ∀ lb cb, (callFunc 144 #[.slice (some ⟨vb, voff, none⟩) m vc, .slice (some ⟨b, i + m, none⟩) lb cb]).run Try.prog w = .ok (.value (.bool false)) w := fun lb cb => by
    rw [run_callFunc_extern Try.func144 (by kernel_rfl) (by kernel_rfl) (by kernel_rfl) (e := Extern.SlicesOverlaps.overlaps #[33, 33] #[4]) (by kernel_rfl),
      run_ov w 33 4 3 Try.underlying33 L.z3 ⟨vb, voff, none⟩ ⟨b, i + m, none⟩ m vc lb cb hvb hvh hh hvc (by omega)]
    rfl
  have hdl : (cs.drop i).length = n - i := by rw [List.length_drop, hcl]
  obtain ⟨W1, hW1⟩ : ∃ W1, W1 = w.drew.setCells b (i + m) (cs.drop i) := ⟨_, rfl⟩
  have c1 : ∀ ty dc sc, (Builtin.copy_ #[33, 33] ty #[.slice (some ⟨b, i + m, none⟩) (n + m - (i + m)) dc, .slice (some ⟨b, i, none⟩) (n + m - i) sc]).run Try.prog w.drew = .ok (goInt (cs.drop i).length) W1 := fun ty dc sc => by
    rw [hW1]
    exact run_copy_cells w.drew _ _ ty 3 b (i + m) (n + m - (i + m)) dc ⟨b, i, none⟩ (n + m - i) sc (cs.drop i) Try.underlying33 hsz (by rw [hdl]; simp only [Nat.min_def]; split <;> omega)
      (fun j v hj => by rw [Addr.add_lit]; exact hcs (i + j) v (by rwa [List.getElem?_drop] at hj))
      (fun j hj => hsp _ (by omega)) (fun j _ => hfz _) (fun v hv => h1c v (List.mem_of_mem_drop hv))
  have sp1 : ∀ k, k < n + m → (W1.cell? ⟨b, k, none⟩).isSome = true := fun k hk => by
    rw [hW1]
    exact some_cells b (cs.drop i) (i + m) w.drew (fun j hj => hsp (i + m + j) (by rw [hdl] at hj; omega)) k (hsp k hk)
  have c2 : ∀ (W : World), (∀ x, W.cell? x = W1.cell? x) → (∀ x, W.frozen? x = W1.frozen? x) → ∀ ty dc, (Builtin.copy_ #[33, 33] ty #[.slice (some ⟨b, i, none⟩) (n + m - i) dc, .slice (some ⟨vb, voff, none⟩) m vc]).run Try.prog W = .ok (goInt vs.length) (W.setCells b i vs) := fun W e1 e2 ty dc =>
    run_copy_cells W _ _ ty 3 b i (n + m - i) dc ⟨vb, voff, none⟩ m vc vs Try.underlying33 hsz (by rw [hvl]; simp only [Nat.min_def]; split <;> omega)
      (fun j v hj => by
        rw [Addr.add_lit, e1, hW1, World.cell?_setCells_out b _ _ _ _ (fun h _ => absurd h hvb)]
        exact hvs j v hj)
      (fun j hj => by rw [e1]; exact sp1 _ (by omega)) (fun j _ => by rw [e2, hW1, World.frozen?_setCells]; exact hfz _) h1v
  go_enter Try.func98, Try.ntmps98
  go_wp2_with (simp only [hov])
  go_region_law_o (refine step_copy_runI rfl _ _ 33 33 rfl _ _ (by simp [Act.eval, Act.put]) (by simp [Act.eval, Act.put]) (c1 _ _ _) ?_)
  go_wp2_with (at_builtin; refine wpList_copy_runI _ rfl _ _ 33 33 rfl _ _ rfl rfl (c2 _ (fun _ => rfl) (fun _ => rfl) _ _) ?_)
  go_ret
  first | exact ⟨rfl, rfl⟩ | exact ⟨rfl, by rw [hW1]⟩
theorem set_obj (g : Nat) : ∀ (vs : List Value) (o : Nat) (w : World) (cur : Array Value) (e : TypeId) (f : Nat × Nat), w.heap[g]? = some (.cells cur e f) → ∃ cur', (w.setCells g o vs).heap[g]? = some (.cells cur' e f) ∧ cur'.size = cur.size
  | [], _, w, cur, e, f, h => ⟨cur, h, rfl⟩
  | v :: r, o, w, cur, e, f, h => by
    obtain ⟨c, h1, h2⟩ := set_obj g r (o + 1) (w.setCell ⟨g, o, none⟩ v) (cur.setIfInBounds o v) e f (by simp [World.setCell, Array.getElem?_modify, h])
    exact ⟨c, h1, by rw [h2]; simp⟩
theorem set_kept (g : Nat) : ∀ (vs : List Value) (o : Nat) (w : World), (w.setCells g o vs).os = w.os ∧ (w.setCells g o vs).tape = w.tape ∧ (w.setCells g o vs).output = w.output ∧ (w.setCells g o vs).heap.size = w.heap.size ∧ ∀ q, q ≠ g → (w.setCells g o vs).heap[q]? = w.heap[q]?
  | [], _, w => ⟨rfl, rfl, rfl, rfl, fun _ _ => rfl⟩
  | v :: r, o, w => by
    obtain ⟨h1, h2, h3, h4, h5⟩ := set_kept g r (o + 1) (w.setCell ⟨g, o, none⟩ v)
    exact ⟨h1, h2, h3, h4.trans (by simp [World.setCell]), fun q hq => (h5 q hq).trans (Below.heap_setCell w ⟨g, o, none⟩ v q hq)⟩
theorem obj_of_cell {w : World} {g o : Nat} {u : Value} (h : w.cell? ⟨g, o, none⟩ = some u) : ∃ c e f, w.heap[g]? = some (.cells c e f) ∧ o < c.size := by
  unfold World.cell? at h
  split at h
  · rename_i c e f hg
    refine ⟨c, e, f, hg, ?_⟩
    have h : c[o]? = some u := by simpa using h
    exact (Array.getElem?_eq_some_iff.1 h).1
  · cases h
theorem ins_fin {w w' : World} {X : Nat → Prop} {base : Nat} {b : Nat → Value} {ow : List (Nat × Own)} {r : List Int} {B C : Nat} {cur : Array Value} (hB : base ≤ B) (hh : w'.heap[B]? = some (.cells cur 3 (0, 0))) (hN : r.length ≤ C + 1) (hC : C + 1 ≤ maxLen) (hs : cur.size = C + 1)
    (hc : ∀ j, j < r.length → cur[j]? = some (.int .i64 (r.getD j 0))) (hX : ¬ X B) (hk : KeptBut (BkO b ow) w w') (hn : w.heap.size ≤ B ∨ BkO b ow B) :
    ∃ v b', Ending.returned (.slice (some ⟨B, 0, none⟩) r.length (C + 1)) = .returned v ∧ (∀ j, 1000 ≤ j → b' j = b j) ∧ OwnsIn w' X base b' [(0, ownOf inCell 1 0 r 3)] ∧ R w' (fun g => X g ∨ BkO b' [(0, ownOf inCell 1 0 r 3)] g) b' (.own 0) v ∧ KeptBut (BkO b ow) w w' ∧
      ∀ g, BkO b' [(0, ownOf inCell 1 0 r 3)] g → w.heap.size ≤ g ∨ BkO b ow g := by
  have hb0 : setB b 0 (.slice (some ⟨B, 0, none⟩) r.length (C + 1)) 0 = .slice (some ⟨B, 0, none⟩) r.length (C + 1) := setB_same _ _ _
  have hbk : ∀ g, BkO (setB b 0 (.slice (some ⟨B, 0, none⟩) r.length (C + 1))) [(0, ownOf inCell 1 0 r 3)] g → g = B := by
    rintro g ⟨j, o, h1, h2⟩
    rw [lookO_cons] at h1
    split at h1
    · rename_i e
      rw [e, hb0] at h2
      have h2 : some B = some g := h2
      injection h2 with h2; exact h2.symm
    · cases h1
  refine ⟨_, setB b 0 (.slice (some ⟨B, 0, none⟩) r.length (C + 1)), rfl, fun j hj => setB_other _ _ _ (by omega), ⟨fun j o hj => ?_, fun i j oi oj hi hj hne => ?_, fun g hg hx => hX (hbk g hg ▸ hx)⟩, ?_, hk, fun g hg => hbk g hg ▸ hn⟩
  · rw [lookO_cons] at hj
    split at hj
    · rename_i e
      injection hj with hj
      subst hj; subst e
      refine ⟨cur.toList.take r.length, .inr ⟨?_, B, r.length, C, hb0⟩, fun i hi t ht => ?_⟩
      · rw [hb0]
        have q : cur.toList.length = C + 1 := by simpa using hs
        refine ⟨by rw [List.length_take, q]; omega, .inr ⟨B, C + 1, cur, rfl, hB, hh, hN, hC, by rw [hs, Nat.mul_one], by rw [Nat.mul_one]⟩⟩
      · have ht : t = 0 := by omega
        subst ht
        refine ⟨.int .i64 (r.getD i 0), ?_, rfl, rfl⟩
        rw [Nat.mul_one, Nat.add_zero, List.getElem?_take, if_pos hi, Array.getElem?_toList]
        exact hc i hi
    · cases hj
  · rw [lookO_cons] at hi hj
    split at hi
    · split at hj
      · rename_i e1 e2; exact absurd (e1.trans e2.symm) hne
      · cases hj
    · cases hi
  · show _ = hdv _
    rw [hb0]; rfl
theorem ins_ct (l v : List Int) (i : Nat) (hi : i ≤ l.length) (hl : l.length + v.length ≤ 1000) : CtM Try.prog 98 [SV.own 1000, iv (i : Int), inRow v] [(1000, ownOf inCell 1 0 l 3)] (SV.own 0) [(0, ownOf inCell 1 0 (l.take i ++ v ++ l.drop i) 3)] := by
  by_cases hv : v.length = 0
  · have hv := List.eq_nil_of_length_eq_zero hv
    subst hv
    rw [List.append_nil, List.take_append_drop]
    exact ins0_ct l i hi
  by_cases hin : i = l.length
  · rw [hin, List.take_length, List.drop_length, List.append_nil, ← hin]
    exact insE_ct l v i hin (by omega) hl
  have a2 : i < l.length := by omega
  have a3 : 0 < v.length := Nat.pos_of_ne_zero hv
  clear hv hin
  intro w X base b vals hbase hX hO hr
  match vals, hr with
  | [v0, v1, v2], ⟨h0, h1, h2, _⟩ =>
  have h0 : v0 = hdv (b 1000) := h0
  have h1 : v1 = .int .i64 (i : Int) := h1
  obtain ⟨xs, hown, hcell⟩ := hO.owns 1000 (ownOf inCell 1 0 l 3) rfl
  rcases hown with ⟨_, _, hn0, _⟩ | ⟨⟨hxl, hsl⟩, g', m', c', hb'⟩
  · omega
  rcases hsl with ⟨_, hn0⟩ | ⟨g, cap, cur, hbv, hbg, hh, hcap, hmax, hsz, htk⟩
  · omega
  rw [hbv] at hb'
  simp only [Value.slice.injEq, Option.some.injEq, Addr.mk.injEq, and_true] at hb'
  obtain ⟨rfl, rfl, rfl⟩ := hb'
  rw [Nat.mul_one] at hxl hsz htk
  have hv0 : v0 = .slice (some ⟨g, 0, none⟩) l.length (c' + 1) := by rw [h0, hbv]; rfl
  obtain ⟨A, vc, hv2, hmc, hvcm, hvrow⟩ := h2
  obtain ⟨vb, vo, rfl, hvb, hvX, hvcell⟩ := hvrow (by omega)
  have hgO : BkO b [(1000, ownOf inCell 1 0 l 3)] g := ⟨1000, _, rfl, by rw [hbv]; rfl⟩
  have hne : vb ≠ g := fun e => hvX (.inr (e ▸ hgO))
  have hgX : ¬ X g := fun hx => hO.free g hgO hx
  obtain ⟨cs, hcsd⟩ : ∃ cs : List Value, cs = l.map fun x => .int .i64 x := ⟨_, rfl⟩
  obtain ⟨vs, hvsd⟩ : ∃ vs : List Value, vs = v.map fun x => .int .i64 x := ⟨_, rfl⟩
  have hcl : cs.length = l.length := by rw [hcsd]; exact List.length_map _
  have hvl : vs.length = v.length := by rw [hvsd]; exact List.length_map _
  have cat : ∀ j, j < l.length → cs[j]? = some (.int .i64 (l.getD j 0)) := fun j hj => by rw [hcsd, List.getElem?_map, List.getElem?_eq_getElem hj, getD_lt hj]; rfl
  have vat : ∀ j, j < v.length → vs[j]? = some (.int .i64 (v.getD j 0)) := fun j hj => by rw [hvsd, List.getElem?_map, List.getElem?_eq_getElem hj, getD_lt hj]; rfl
  have vgt : ∀ j (hj : j < vs.length), vs[j] = .int .i64 (v.getD j 0) := fun j hj => by
    have := vat j (by omega); rw [List.getElem?_eq_getElem hj] at this; exact Option.some.inj this
  have cgt : ∀ j (hj : j < (cs.drop i).length), (cs.drop i)[j] = .int .i64 (l.getD (i + j) 0) := fun j hj => by
    have h2 : i + j < cs.length := by rw [List.length_drop] at hj; omega
    have := cat (i + j) (by omega); rw [List.getElem?_eq_getElem h2] at this
    rw [List.getElem_drop]; exact Option.some.inj this
  have hcur : ∀ j, j < l.length → cur[j]? = some (.int .i64 (l.getD j 0)) := fun j hj => by
    obtain ⟨u, hu, _, h3⟩ := hcell j hj 0 (by omega)
    have h3 : u = .int .i64 (l.getD j 0) := h3
    rw [← h3, ← hu, ← htk, Nat.mul_one, Nat.add_zero, List.getElem?_take, if_pos hj, Array.getElem?_toList]
  have hcs : ∀ j u, cs[j]? = some u → w.cell? ⟨g, j, none⟩ = some u := fun j u hu => by
    obtain ⟨hj, e⟩ := List.getElem?_eq_some_iff.1 hu
    have hj : j < l.length := by rw [hcl] at hj; exact hj
    rw [cell_of_row w g j cur 3 (0, 0) hh, hcur j hj, ← hu, cat j hj]
  have hvs : ∀ j u, vs[j]? = some u → w.cell? ⟨vb, vo + j, none⟩ = some u := fun j u hu => by
    obtain ⟨hj, e⟩ := List.getElem?_eq_some_iff.1 hu
    have hj : j < v.length := by rw [hvl] at hj; exact hj
    obtain ⟨y, hy, _, h3⟩ := hvcell j hj 0 (by omega)
    have h3 : y = .int .i64 (v.getD j 0) := h3
    rw [Nat.mul_one, Nat.add_zero] at hy
    rw [hy, h3, ← hu, vat j hj]
  have o1 : ∀ u ∈ cs, u.oneCell' = true := fun u hu => by rw [hcsd] at hu; obtain ⟨x, _, rfl⟩ := List.mem_map.1 hu; rfl
  have o2 : ∀ u ∈ vs, u.oneCell' = true := fun u hu => by rw [hvsd] at hu; obtain ⟨x, _, rfl⟩ := List.mem_map.1 hu; rfl
  have v00 : w.cell? ⟨vb, vo + 0, none⟩ = some _ := hvs 0 _ (List.getElem?_eq_getElem (by rw [hvl]; omega))
  obtain ⟨vcur, ve, vf, hvh, hvsz⟩ := obj_of_cell v00
  have hrl : (l.take i ++ v ++ l.drop i).length = l.length + v.length := by simp only [List.length_append, List.length_take, List.length_drop]; omega
  have hm63 : c' + 1 ≤ 9223372036854775807 := hmax
  -- what stands where
  have ra : ∀ j, j < i → (l.take i ++ v ++ l.drop i).getD j 0 = l.getD j 0 := fun j hj => by
    simp only [List.getD_eq_getElem?_getD]
    rw [List.append_assoc, List.getElem?_append_left (by rw [List.length_take]; omega), List.getElem?_take, if_pos hj]
  have rb : ∀ j, j < v.length → (l.take i ++ v ++ l.drop i).getD (i + j) 0 = v.getD j 0 := fun j hj => by
    simp only [List.getD_eq_getElem?_getD]
    rw [List.append_assoc, List.getElem?_append_right (by rw [List.length_take]; omega), List.getElem?_append_left (by rw [List.length_take]; omega), List.length_take]
    congr 2; omega
  have rc : ∀ j, (l.take i ++ v ++ l.drop i).getD (i + v.length + j) 0 = l.getD (i + j) 0 := fun j => by
    simp only [List.getD_eq_getElem?_getD]
    rw [List.getElem?_append_right (by rw [List.length_append, List.length_take]; omega), List.length_append, List.length_take, List.getElem?_drop]
    congr 2; omega
  rw [hv0, h1, hv2]
  have a1 : 0 < vcur.size := Nat.lt_of_le_of_lt (Nat.zero_le _) hvsz
  by_cases hroom : l.length + v.length ≤ c' + 1
  · refine (ins_shift g l.length (c' + 1) i vb vo v.length vc cs vs w hh hsz hvh a1 a2 a3 hroom hm63 hne hcl hvl hcs hvs o1 o2).mono ?_
    rintro e w' ⟨rfl, rfl⟩
    obtain ⟨cur1, q1, q2⟩ := set_obj g (cs.drop i) (i + v.length) w.drew cur 3 (0, 0) hh
    obtain ⟨cur2, q3, q4⟩ := set_obj g vs i _ cur1 3 (0, 0) q1
    have k1 := set_kept g (cs.drop i) (i + v.length) w.drew
    have k2 := set_kept g vs i (w.drew.setCells g (i + v.length) (cs.drop i))
    have hdl : (cs.drop i).length = l.length - i := by rw [List.length_drop, hcl]
    have s1 : ∀ j, j < c' + 1 → (w.drew.cell? ⟨g, j, none⟩).isSome = true := fun j hj => by
      rw [cell_of_row w.drew g j cur 3 (0, 0) hh, Array.getElem?_eq_getElem (by omega)]; rfl
    have s2 : ∀ j, j < c' + 1 → ((w.drew.setCells g (i + v.length) (cs.drop i)).cell? ⟨g, j, none⟩).isSome = true := fun j hj => by
      rw [cell_of_row _ g j cur1 3 (0, 0) q1, Array.getElem?_eq_getElem (by omega)]; rfl
    have hc : ∀ j, j < (l.take i ++ v ++ l.drop i).length → cur2[j]? = some (.int .i64 ((l.take i ++ v ++ l.drop i).getD j 0)) := fun j hj => by
      rw [hrl] at hj
      rw [← cell_of_row _ g j cur2 3 (0, 0) q3]
      by_cases a : j < i
      · rw [World.cell?_setCells_out g _ _ _ _ (fun _ _ => .inl a), World.cell?_setCells_out g _ _ _ _ (fun _ _ => .inl (show j < i + v.length by omega)), ra j a]
        show w.cell? ⟨g, j, none⟩ = _
        rw [cell_of_row w g j cur 3 (0, 0) hh, hcur j (by omega)]
      · obtain ⟨q, rfl⟩ := Nat.exists_eq_add_of_le (Nat.le_of_not_lt a)
        by_cases a2 : q < v.length
        · rw [World.cell?_setCells_in g vs i _ (fun t ht => s2 _ (by rw [hvl] at ht; omega)) q (by rw [hvl]; exact a2), rb q a2, vgt q]
        · obtain ⟨t, rfl⟩ := Nat.exists_eq_add_of_le (Nat.le_of_not_lt a2)
          rw [World.cell?_setCells_out g _ _ _ _ (fun _ _ => .inr (show i + vs.length ≤ i + (v.length + t) by rw [hvl]; omega)), ← Nat.add_assoc, World.cell?_setCells_in g (cs.drop i) (i + v.length) w.drew (fun t ht => s1 _ (by rw [hdl] at ht; omega)) t (by rw [hdl]; omega), rc t, cgt t]
    have := ins_fin (w := w) (ow := [(1000, ownOf inCell 1 0 l 3)]) (b := b) (X := X) (r := l.take i ++ v ++ l.drop i) (C := c') hbg q3 (by rw [hrl]; exact hroom) hmax (by rw [q4, q2]; exact hsz) hc hgX
      ⟨k2.1.trans k1.1, k2.2.1.trans k1.2.1, k2.2.2.1.trans k1.2.2.1, Nat.le_of_eq ((k2.2.2.2.1.trans k1.2.2.2.1).symm), fun q hq hY => (k2.2.2.2.2 q fun e => hY (e ▸ hgO)).trans (k1.2.2.2.2 q fun e => hY (e ▸ hgO))⟩ (.inr hgO)
    rw [hrl] at this
    exact this
  · have hcs0 : ∀ j u, cs[j]? = some u → w.cell? ⟨g, 0 + j, none⟩ = some u := fun j u hu => by rw [Nat.zero_add]; exact hcs j u hu
    refine (Any2.slices_Insert_int_grow lay21 g 0 l.length (c' + 1) i vb vo v.length vc cs vs w a2 a3 hcap (Nat.lt_of_not_le hroom) (by omega) hcl hvl hcs0 hvs o1 o2).mono ?_
    rintro e w' ⟨rfl, rfl⟩
    show ∃ v' b', Ending.returned (Value.slice (some ⟨w.heap.size, 0, none⟩) (l.length + v.length) (grownCap w (l.length + v.length) (c' + 1) 3)) = .returned v' ∧ _
    have hge := grownCap_ge w (l.length + v.length) (c' + 1) 3
    have hle := grownCap_le_maxLen w (l.length + v.length) (c' + 1) 3 (by unfold maxLen; omega)
    obtain ⟨C, hC⟩ : ∃ C, grownCap w (l.length + v.length) (c' + 1) 3 = C + 1 := ⟨_, (Nat.succ_pred_eq_of_pos (by omega)).symm⟩
    rw [hC] at hge hle
    obtain ⟨ROW, hROW⟩ : ∃ ROW : Array Value, ROW = (cs.take i).toArray ++ Builtin.zeroCells (Value.int .i64 0).cells (l.length + v.length - i) ++ Builtin.zeroCells (Value.int .i64 0).cells (C + 1 - (l.length + v.length)) := ⟨_, rfl⟩
    show ∃ v' b', _ = _ ∧ _ ∧ OwnsIn ((((w.alloc (.cells ((cs.take i).toArray ++ Builtin.zeroCells (Value.int .i64 0).cells (l.length + v.length - i) ++ Builtin.zeroCells (Value.int .i64 0).cells (grownCap w (l.length + v.length) (c' + 1) 3 - (l.length + v.length))) 3)).drew.setCells w.heap.size i vs).drew).setCells w.heap.size (i + v.length) (cs.drop i)) X base b' _ ∧ R ((((w.alloc (.cells ((cs.take i).toArray ++ Builtin.zeroCells (Value.int .i64 0).cells (l.length + v.length - i) ++ Builtin.zeroCells (Value.int .i64 0).cells (grownCap w (l.length + v.length) (c' + 1) 3 - (l.length + v.length))) 3)).drew.setCells w.heap.size i vs).drew).setCells w.heap.size (i + v.length) (cs.drop i)) _ _ _ _ ∧ KeptBut _ w ((((w.alloc (.cells ((cs.take i).toArray ++ Builtin.zeroCells (Value.int .i64 0).cells (l.length + v.length - i) ++ Builtin.zeroCells (Value.int .i64 0).cells (grownCap w (l.length + v.length) (c' + 1) 3 - (l.length + v.length))) 3)).drew.setCells w.heap.size i vs).drew).setCells w.heap.size (i + v.length) (cs.drop i)) ∧ _
    rw [hC, ← hROW]
    have hRs : ROW.size = C + 1 := by
      rw [hROW]; simp [Builtin.zeroCells, Value.cells, hcl]; omega
    obtain ⟨W0, hW0⟩ : ∃ W0, W0 = w.alloc (.cells ROW 3) := ⟨_, rfl⟩
    have hW0h : W0.heap[w.heap.size]? = some (.cells ROW 3 (0, 0)) := by rw [hW0]; exact heap_alloc_new w _
    have hW0k : ∀ q, q < w.heap.size → W0.heap[q]? = w.heap[q]? := fun q hq => by rw [hW0]; exact Below.heap_alloc w _ q hq
    have hW0o : W0.os = w.os ∧ W0.tape = w.tape ∧ W0.output = w.output ∧ w.heap.size ≤ W0.heap.size := by rw [hW0]; exact ⟨rfl, rfl, rfl, by simp⟩
    rw [← hW0]
    obtain ⟨cur1, q1, q2⟩ := set_obj w.heap.size vs i W0.drew ROW 3 (0, 0) hW0h
    obtain ⟨cur2, q3, q4⟩ := set_obj w.heap.size (cs.drop i) (i + v.length) (W0.drew.setCells w.heap.size i vs).drew cur1 3 (0, 0) q1
    have k1 := set_kept w.heap.size vs i W0.drew
    have k2 := set_kept w.heap.size (cs.drop i) (i + v.length) (W0.drew.setCells w.heap.size i vs).drew
    have hdl : (cs.drop i).length = l.length - i := by rw [List.length_drop, hcl]
    have s1 : ∀ j, j < C + 1 → (W0.drew.cell? ⟨w.heap.size, j, none⟩).isSome = true := fun j hj => by
      rw [cell_of_row W0.drew w.heap.size j ROW 3 (0, 0) hW0h, Array.getElem?_eq_getElem (by omega)]; rfl
    have s2 : ∀ j, j < C + 1 → ((W0.drew.setCells w.heap.size i vs).drew.cell? ⟨w.heap.size, j, none⟩).isSome = true := fun j hj => by
      rw [cell_of_row (W0.drew.setCells w.heap.size i vs).drew w.heap.size j cur1 3 (0, 0) q1, Array.getElem?_eq_getElem (by omega)]; rfl
    have hRi : ∀ j, j < i → ROW[j]? = some (.int .i64 (l.getD j 0)) := fun j hj => by
      rw [hROW, Array.append_assoc, Array.getElem?_append_left (by rw [List.size_toArray, List.length_take, hcl]; omega), List.getElem?_toArray, List.getElem?_take, if_pos hj, cat j (by omega)]
    have hc : ∀ j, j < (l.take i ++ v ++ l.drop i).length → cur2[j]? = some (.int .i64 ((l.take i ++ v ++ l.drop i).getD j 0)) := fun j hj => by
      rw [hrl] at hj
      rw [← cell_of_row _ w.heap.size j cur2 3 (0, 0) q3]
      by_cases a : j < i + v.length
      · rw [World.cell?_setCells_out w.heap.size _ _ _ _ (fun _ _ => .inl a)]
        show (W0.drew.setCells w.heap.size i vs).cell? ⟨w.heap.size, j, none⟩ = _
        by_cases a1 : j < i
        · rw [World.cell?_setCells_out w.heap.size _ _ _ _ (fun _ _ => .inl a1), ra j a1, cell_of_row W0.drew w.heap.size j ROW 3 (0, 0) hW0h, hRi j a1]
        · obtain ⟨q, rfl⟩ := Nat.exists_eq_add_of_le (Nat.le_of_not_lt a1)
          rw [World.cell?_setCells_in w.heap.size vs i _ (fun t ht => s1 _ (by rw [hvl] at ht; omega)) q (by rw [hvl]; omega), rb q (by omega), vgt q]
      · obtain ⟨t, rfl⟩ := Nat.exists_eq_add_of_le (Nat.le_of_not_lt a)
        rw [World.cell?_setCells_in w.heap.size (cs.drop i) (i + v.length) _ (fun t ht => s2 _ (by rw [hdl] at ht; omega)) t (by rw [hdl]; omega), rc t, cgt t]
    have hgX2 : ¬ X w.heap.size := fun hx => Nat.lt_irrefl _ (hX _ hx)
    have := ins_fin (w := w) (ow := [(1000, ownOf inCell 1 0 l 3)]) (b := b) (X := X) (base := base) (r := l.take i ++ v ++ l.drop i) (C := C) hbase q3 (by rw [hrl]; exact hge) hle (by rw [q4, q2]; exact hRs) hc hgX2
      ⟨(k2.1.trans k1.1).trans hW0o.1, (k2.2.1.trans k1.2.1).trans hW0o.2.1, (k2.2.2.1.trans k1.2.2.1).trans hW0o.2.2.1, by
        have e1 := k2.2.2.2.1; have e2 := k1.2.2.2.1
        have e3 : (W0.drew).heap.size = W0.heap.size := rfl
        have e4 : ((W0.drew.setCells w.heap.size i vs).drew).heap.size = (W0.drew.setCells w.heap.size i vs).heap.size := rfl
        have := hW0o.2.2.2; omega, fun q hq hY => ((k2.2.2.2.2 q (by omega)).trans (k1.2.2.2.2 q (by omega))).trans (hW0k q hq)⟩ (.inl (Nat.le_refl _))
    rw [hrl] at this
    exact this
end Go.Proofs.Ytmcdamcedemdiaa
namespace Go.Proofs.Ytmcdamcedemdiaa
open Go.RowKit Go.Eng
theorem zero112 : ZeroOk Try.prog 112 1 (fun _ => SV.v .nilFunc) := zero_one (fun w => by kernel_rfl) rfl rfl
def idxI (l : List Int) (v : Int) : Int := idxF (fun y => decide (v = y)) l
theorem first1 {l : List Nd} {h : Hd} (e : firstSt l [h] = 0) : checkSt l = 0 ∧ holdsSt l h = 0 ∧ (0 ≤ h.pl ∧ h.pl < (l.length : Int)) ∧ (l.getD h.pl.toNat default).used = true := by
  obtain ⟨a, b⟩ := first_ok e
  have b := b 0 (Nat.succ_pos 0)
  have c := holds_in b
  exact ⟨a, b, ⟨c.1, c.2.1⟩, c.2.2.2.1⟩
def orderSt (l : List Nd) (h : Hd) : List Int × Int := if firstSt l [h] ≠ 0 then ([], firstSt l [h]) else (ordSt l h.pl, 0)
theorem order_1 {l : List Nd} {h : Hd} (q : ¬ firstSt l [h] = 0) : orderSt l h = ([], firstSt l [h]) := if_pos q
theorem order_2 {l : List Nd} {h : Hd} (q : firstSt l [h] = 0) : orderSt l h = (ordSt l h.pl, 0) := if_neg (not_not_intro q)
def remSt (l : List Nd) (h : Hd) : List Nd × Int := if firstSt l [h] ≠ 0 then ([], firstSt l [h]) else if (l.getD h.pl.toNat default).par < 0 then ([], 6) else (outSt l h.pl, 0)
theorem rem_1 {l : List Nd} {h : Hd} (q : ¬ firstSt l [h] = 0) : remSt l h = ([], firstSt l [h]) := if_pos q
theorem rem_2 {l : List Nd} {h : Hd} (q : firstSt l [h] = 0) (p : (l.getD h.pl.toNat default).par < 0) : remSt l h = ([], 6) := by unfold remSt; rw [if_neg (not_not_intro q), if_pos p]
theorem rem_3 {l : List Nd} {h : Hd} (q : firstSt l [h] = 0) (p : ¬ (l.getD h.pl.toNat default).par < 0) : remSt l h = (outSt l h.pl, 0) := by unfold remSt; rw [if_neg (not_not_intro q), if_neg p]
theorem ord_nil {l : List Nd} {n : Nat} {k : Int} : (ordN l (n + 1) k).length = 1 + ((l.getD k.toNat default).kids.flatMap (ordN l n)).length := by
  show (k :: _).length = _
  rw [List.length_cons, Nat.add_comm]
theorem flat_take_le {f : Int → List Int} (ks : List Int) (j : Nat) : ((ks.take j).flatMap f).length ≤ (ks.flatMap f).length := by
  conv => rhs; rw [← List.take_append_drop j ks, List.flatMap_append, List.length_append]
  exact Nat.le_add_right _ _
theorem flat_take_1 {f : Int → List Int} {ks : List Int} {j : Nat} (h : j < ks.length) : (ks.take (j + 1)).flatMap f = (ks.take j).flatMap f ++ f (ks.getD j 0) := by
  rw [take_s 0 h, List.flatMap_append]; simp
def stkF (l : List Nd) (stk : List Int) : List Int := stk.reverse.flatMap (ordSt l)
structure Stk (l : List Nd) (h : Int) (stk out : List Int) : Prop where
  rng : ∀ x ∈ stk, 0 ≤ x ∧ x < (l.length : Int)
  sum : out ++ stkF l stk = ordSt l h
theorem stk_len {l : List Nd} (hc : checkSt l = 0) : ∀ {stk : List Int}, (∀ x ∈ stk, 0 ≤ x ∧ x < (l.length : Int)) → stk.length ≤ (stk.flatMap (ordSt l)).length
  | [], _ => Nat.le_refl _
  | x :: r, h => by
    have h1 := stk_len hc (stk := r) fun y hy => h y (.tail _ hy)
    rw [List.flatMap_cons, List.length_append, ord_eq hc (h x (.head _)), List.length_cons, List.length_cons]
    omega
theorem stk_room {l : List Nd} (hc : checkSt l = 0) {h : Int} (hh : 0 ≤ h ∧ h < (l.length : Int)) {stk out : List Int} (S : Stk l h stk out) : out.length + stk.length ≤ 24 ∧ out.length + (stkF l stk).length ≤ 24 := by
  have h1 := ord_len hc hh
  have h2 := checkSt_len hc
  have h3 := congrArg List.length S.sum
  rw [List.length_append] at h3
  have h4 := stk_len hc (stk := stk.reverse) fun x hx => S.rng x (List.mem_reverse.1 hx)
  rw [List.length_reverse] at h4
  unfold stkF at h3 ⊢
  omega
theorem stk_0 {l : List Nd} {h : Int} (hh : 0 ≤ h ∧ h < (l.length : Int)) : Stk l h [h] [] := ⟨fun x hx => by rw [List.mem_singleton.1 hx]; exact hh, by simp [stkF]⟩
theorem stk_pop {stk : List Int} (h : 0 < stk.length) : stk = stk.take (stk.length - 1) ++ [stk.getD (stk.length - 1) 0] := by
  have := take_s (l := stk) 0 (i := stk.length - 1) (by omega)
  rw [← this, show stk.length - 1 + 1 = stk.length by omega, List.take_length]
theorem stk_f {l : List Nd} (hc : checkSt l = 0) {h : Int} {stk out : List Int} (S : Stk l h stk out) (h0 : 0 < stk.length) :
    (0 ≤ stk.getD (stk.length - 1) 0 ∧ stk.getD (stk.length - 1) 0 < (l.length : Int)) ∧ (stkF l stk).length = 1 + (stkF l (stk.take (stk.length - 1) ++ (l.getD (stk.getD (stk.length - 1) 0).toNat default).kids.reverse)).length ∧
    Stk l h (stk.take (stk.length - 1) ++ (l.getD (stk.getD (stk.length - 1) 0).toNat default).kids.reverse) (out ++ [stk.getD (stk.length - 1) 0]) := by
  have hp := stk_pop h0
  have hm : stk.getD (stk.length - 1) 0 ∈ stk := mem_getD (by omega)
  have hr := S.rng _ hm
  generalize stk.getD (stk.length - 1) 0 = k at hp hm hr ⊢
  have e : stkF l stk = k :: stkF l (stk.take (stk.length - 1) ++ (l.getD k.toNat default).kids.reverse) := by
    unfold stkF
    conv => lhs; rw [hp]
    rw [List.reverse_append, List.reverse_append, List.reverse_reverse, List.reverse_singleton, List.flatMap_append, List.flatMap_append, List.flatMap_singleton, ord_eq hc hr]
    rfl
  refine ⟨hr, by rw [e, List.length_cons, Nat.add_comm], fun x hx => ?_, ?_⟩
  · rcases List.mem_append.1 hx with hx | hx
    · exact S.rng x (List.mem_of_mem_take hx)
    · exact (kid_up hc hr (List.mem_reverse.1 hx)).1
  · rw [← S.sum, e, List.append_assoc]; rfl
theorem stk_end {l : List Nd} {h : Int} {stk out : List Int} (S : Stk l h stk out) (h0 : stk.length = 0) : out = ordSt l h := by
  have := S.sum
  rw [List.eq_nil_of_length_eq_zero h0] at this
  simpa [stkF] using this
theorem rev_at {ks : List Int} {i : Nat} (h : i < ks.length) : ks.reverse.getD i 0 = ks.getD (ks.length - 1 - i) 0 := by
  rw [getD_lt (by rw [List.length_reverse]; exact h), getD_lt (by omega), List.getElem_reverse]
end Go.Proofs.Ytmcdamcedemdiaa
namespace Go.Proofs.Ytmcdamcedemdiaa
open Go.RowKit Go.Eng
theorem copyU_ct (l : List Nd) (hl : l.length ≤ 24) (hk : ∀ i, i < l.length → (l.getD i default).kids.length ≤ 24) : CtM Try.prog 115 [SV.agg 1 (stG l)] [] (SV.agg 1 (cmpG [SV.own 0])) [(0, urowOf ndCell 8 default l 61 5 Nd.kids inCell 1 0 3 l.length none)] := by
 refine CmO 27 Try.func115 rfl rfl rfl fun E => row_lenA 0 (V (s := 0) rfl) rfl rfl fun hl0_0 => Sq <| Rt <| BxA 1 (V rfl) rfl rfl <| Al 2 zero24 rfl rfl <| Nt <| Sq <| Rt <| U (FlB _ _ (V rfl) Un24 rfl 0 Sz22) <| U (LdB (V rfl) rfl Ga22 (by decide)) <| CM (cargs := [ndRow l]) [] [(0, 3)] en147 (by exact ⟨(V rfl), Z⟩) (cloneN_ct l (by omega)) (by exact Z) rfl rfl rfl rfl <| U (FlB _ _ (V rfl) Un24 rfl 0 Sz22) <| t_st1V (V rfl) rfl (V rfl) (one_own rfl) Sz22 (by decide) <| Nt <| Sq <| Sq <| Rq <| O (FlB _ _ (V rfl) Un24 rfl 0 Sz22) <| O (LdB (V rfl) rfl Ga22 (by decide)) <| O (LnO (V rfl) rfl ts22) <| O (Mv K) <| Nq <| Bo <| Tc (turn_u0T 3 5 Nd.kids inCell 1 0 3 rfl rfl) <| Lo (fun (i : Nat) => ⟨[(1, SV.bp 1 0), (2, SV.bp 2 0), (10, SV.own 3), (11, iv ((l.length : Int))), (12, iv ((i : Int)))], [(1, Own.box 1 (upd (stG l) 0 (SV.own 3)) 24), (2, Own.box 1 (cmpG [SV.v (Value.slice none 0 0)]) 24), (3, urowOf ndCell 8 default l 61 5 Nd.kids inCell 1 0 3 i none)]⟩) (fun (i : Nat) => i ≤ l.length) (fun (i : Nat) => l.length - i) 0 (by show 0 ≤ l.length; exact Nat.zero_le _) (We (ow := [(1, Own.box 1 (upd (stG l) 0 (SV.own 3)) 24), (2, Own.box 1 (cmpG [SV.v (Value.slice none 0 0)]) 24), (3, urowOf ndCell 8 default l 61 5 Nd.kids inCell 1 0 3 0 none)]) (Vs rfl) (by exact ⟨⟨_, rfl, rfl, rfl, (An rfl)⟩, ⟨_, rfl, rfl, rfl, (An rfl)⟩, ⟨_, rfl, rfl⟩, Z⟩)) <| ?_
 ·rintro i hI1
  have hJ1 : i ≤ l.length := hI1
  refine Sq <| Rq <| O (Lt (V rfl) (V rfl)) <| Nq <| Sq <| Cd (V rfl) (fun hc1 => ?_) (fun hc1 => ?_)
  ·have hc1s := hc1; try simp only [BL] at hc1s
   have hki := hk i (by omega)
   refine Sk <| Sq <| Bo <| Sq <| Rt <| U (Mv (V rfl)) <| U (IUn (i := i) (V rfl) rfl (V rfl) ts22 te22 (by omega)) <| U (LUA (gt := fun zi => ([bv ((l.getD i default).used), iv ((l.getD i default).uses), iv ((l.getD i default).tag), iv ((l.getD i default).mark), iv ((l.getD i default).par), inRow ((l.getD i default).kids), iv ((l.getD i default).host), bv ((l.getD i default).closed)] : List SV).getD zi .junk) (V rfl) rfl Ga61 Sz61 (by decide) ⟨⟨⟨⟨⟨⟨⟨⟨Z, rfl⟩, rfl⟩, rfl⟩, rfl⟩, rfl⟩, (uat_late (by omega))⟩, rfl⟩, rfl⟩) <| Al 4 zero61 rfl rfl <| U (As (V rfl)) <| StA (V rfl) rfl (V rfl) Sz61 <| Nt <| c_rd (fun e => ⟨[(17, cj (e 0) (SV.bp 1 0)), (18, cj (e 1) (SV.own 3)), (19, cj (e 2) (iv ((i : Int)))), (20, cj (e 3) (SV.bp 4 5)), (21, cj (e 4) (inRow ((l.getD i default).kids))), (22, cj (e 5) (SV.own 5)), (23, cj (e 6) (SV.oe 3 8 i 0)), (24, cj (e 7) (SV.oe 3 8 i 5)), (1, SV.bp 1 0), (2, SV.bp 2 0), (3, iv ((i : Int))), (4, SV.bp 4 0), (10, SV.own 3), (11, iv ((l.length : Int))), (12, iv ((i : Int)))], (cb (e 5) (cb (e 8) [(1, Own.box 1 (upd (stG l) 0 (SV.own 3)) 24), (2, Own.box 1 (cmpG [SV.v (Value.slice none 0 0)]) 24), (3, urowOf ndCell 8 default l 61 5 Nd.kids inCell 1 0 3 i (some (i, SV.own 5))), (4, Own.box 8 (fun zi => ([bv ((l.getD i default).used), iv ((l.getD i default).uses), iv ((l.getD i default).tag), iv ((l.getD i default).mark), iv ((l.getD i default).par), inRow ((l.getD i default).kids), iv ((l.getD i default).host), bv ((l.getD i default).closed)] : List SV).getD zi .junk) 61), (5, ownOf inCell 1 0 ((l.getD i default).kids) 3)] [(1, Own.box 1 (upd (stG l) 0 (SV.own 3)) 24), (2, Own.box 1 (cmpG [SV.v (Value.slice none 0 0)]) 24), (3, urowOf ndCell 8 default l 61 5 Nd.kids inCell 1 0 3 i none), (4, Own.box 8 (fun zi => ([bv ((l.getD i default).used), iv ((l.getD i default).uses), iv ((l.getD i default).tag), iv ((l.getD i default).mark), iv ((l.getD i default).par), inRow ((l.getD i default).kids), iv ((l.getD i default).host), bv ((l.getD i default).closed)] : List SV).getD zi .junk) 61), (5, ownOf inCell 1 0 ((l.getD i default).kids) 3)]) (cb (e 8) [] [(1, Own.box 1 (upd (stG l) 0 (SV.own 3)) 24), (2, Own.box 1 (cmpG [SV.v (Value.slice none 0 0)]) 24), (3, urowOf ndCell 8 default l 61 5 Nd.kids inCell 1 0 3 i none), (4, Own.box 8 (fun zi => ([bv ((l.getD i default).used), iv ((l.getD i default).uses), iv ((l.getD i default).tag), iv ((l.getD i default).mark), iv ((l.getD i default).par), inRow ((l.getD i default).kids), iv ((l.getD i default).host), bv ((l.getD i default).closed)] : List SV).getD zi .junk) 61)]))⟩) ⟨[(17, SV.bp 1 0), (18, SV.own 3), (19, iv ((i : Int))), (20, SV.bp 4 5), (21, inRow ((l.getD i default).kids)), (22, SV.own 5), (23, SV.oe 3 8 i 0), (24, SV.oe 3 8 i 5), (1, SV.bp 1 0), (2, SV.bp 2 0), (3, iv ((i : Int))), (4, SV.bp 4 0), (10, SV.own 3), (11, iv ((l.length : Int))), (12, iv ((i : Int)))], [(1, Own.box 1 (upd (stG l) 0 (SV.own 3)) 24), (2, Own.box 1 (cmpG [SV.v (Value.slice none 0 0)]) 24), (3, urowOf ndCell 8 default l 61 5 Nd.kids inCell 1 0 3 i (some (i, SV.own 5))), (4, Own.box 8 (fun zi => ([bv ((l.getD i default).used), iv ((l.getD i default).uses), iv ((l.getD i default).tag), iv ((l.getD i default).mark), iv ((l.getD i default).par), inRow ((l.getD i default).kids), iv ((l.getD i default).host), bv ((l.getD i default).closed)] : List SV).getD zi .junk) 61), (5, ownOf inCell 1 0 ((l.getD i default).kids) 3)]⟩ (by kernel_rfl) (by kernel_rfl) ?_ ⟨?_, ?_, ?_, ?_, ?_, ?_, ?_, ?_, ?_, Z⟩ ?_ ?_
   ·show Weak _ _ ⟨[(17, SV.junk), (18, SV.junk), (19, SV.junk), (20, SV.junk), (21, SV.junk), (22, SV.junk), (23, SV.junk), (24, SV.junk), (1, SV.bp 1 0), (2, SV.bp 2 0), (3, iv ((i : Int))), (4, SV.bp 4 0), (10, SV.own 3), (11, iv ((l.length : Int))), (12, iv ((i : Int)))], [(1, Own.box 1 (upd (stG l) 0 (SV.own 3)) 24), (2, Own.box 1 (cmpG [SV.v (Value.slice none 0 0)]) 24), (3, urowOf ndCell 8 default l 61 5 Nd.kids inCell 1 0 3 i none), (4, Own.box 8 (fun zi => ([bv ((l.getD i default).used), iv ((l.getD i default).uses), iv ((l.getD i default).tag), iv ((l.getD i default).mark), iv ((l.getD i default).par), inRow ((l.getD i default).kids), iv ((l.getD i default).host), bv ((l.getD i default).closed)] : List SV).getD zi .junk) 61)]⟩
    refine We ?_ ?_
    ·exact ⟨Vj, Vj, Vj, Vj, Vj, Vj, Vj, Vj, V rfl, V rfl, V rfl, V rfl, V rfl, V rfl, V rfl, Z⟩
    ·exact ⟨⟨_, rfl, ⟨rfl, rfl, (An rfl)⟩⟩, ⟨_, rfl, ⟨rfl, rfl, (An rfl)⟩⟩, ⟨_, rfl, rfl⟩, ⟨_, rfl, ⟨rfl, rfl, (An rfl)⟩⟩, Z⟩
   ·intro e hdn he hdp
    have h8 : e 8 = false := fls he fun q => by obtain ⟨r7, -, -, -, -, -, -, -, -, -⟩ := (show e 7 = true ∧ e 5 = true ∧ e 5 = true ∧ e 0 = true ∧ e 1 = true ∧ e 2 = true ∧ e 3 = true ∧ e 4 = true ∧ e 5 = true ∧ True from hdn 8 q); obtain ⟨r6, -, -, -, -, -, -, -⟩ := (show e 6 = true ∧ e 0 = true ∧ e 1 = true ∧ e 2 = true ∧ e 3 = true ∧ e 4 = true ∧ e 5 = true ∧ True from hdn 7 r7); obtain ⟨r1, -, -, -, -, -, -, -, -⟩ := (show e 1 = true ∧ e 2 = true ∧ e 0 = true ∧ e 1 = true ∧ e 2 = true ∧ e 3 = true ∧ e 4 = true ∧ e 5 = true ∧ True from hdn 6 r6); obtain ⟨r0, -⟩ := (show e 0 = true ∧ True from hdn 1 r1); exact r0
    simp only [setE, he, h8, cj_t, cj_f, cjn_t, cjn_f, cb_t, cb_f]
    exact U (FlB _ _ (V rfl) Un24 rfl 0 Sz22) <| Nt <| weakS ⟨V rfl, V rfl, V rfl, V rfl, V rfl, V rfl, V rfl, V rfl, V rfl, V rfl, V rfl, V rfl, V rfl, V rfl, V rfl, Z⟩
   ·intro e hdn he hdp
    obtain ⟨h0, -⟩ := (show e 0 = true ∧ True from hdp)
    have h8 : e 8 = false := fls he fun q => by obtain ⟨r7, -, -, -, -, -, -, -, -, -⟩ := (show e 7 = true ∧ e 5 = true ∧ e 5 = true ∧ e 0 = true ∧ e 1 = true ∧ e 2 = true ∧ e 3 = true ∧ e 4 = true ∧ e 5 = true ∧ True from hdn 8 q); obtain ⟨r6, -, -, -, -, -, -, -⟩ := (show e 6 = true ∧ e 0 = true ∧ e 1 = true ∧ e 2 = true ∧ e 3 = true ∧ e 4 = true ∧ e 5 = true ∧ True from hdn 7 r7); obtain ⟨r1, -, -, -, -, -, -, -, -⟩ := (show e 1 = true ∧ e 2 = true ∧ e 0 = true ∧ e 1 = true ∧ e 2 = true ∧ e 3 = true ∧ e 4 = true ∧ e 5 = true ∧ True from hdn 6 r6); exact r1
    cases hu5 : e 5
    ·simp only [setE, h0, he, h8, hu5, cj_t, cj_f, cjn_t, cjn_f, cb_t, cb_f]
     refine U (LdB (V rfl) rfl Ga22 (by decide)) <| Nt <| We ?_ ?_
     ·exact ⟨V rfl, V rfl, V rfl, V rfl, V rfl, Vj, V rfl, V rfl, V rfl, V rfl, V rfl, V rfl, V rfl, V rfl, V rfl, Z⟩
     ·exact ⟨⟨_, rfl, ⟨rfl, rfl, (An rfl)⟩⟩, ⟨_, rfl, ⟨rfl, rfl, (An rfl)⟩⟩, ⟨_, rfl, rfl⟩, ⟨_, rfl, ⟨rfl, rfl, (An rfl)⟩⟩, Z⟩
    ·simp only [setE, h0, he, h8, hu5, cj_t, cj_f, cjn_t, cjn_f, cb_t, cb_f]
     refine U (LdB (V rfl) rfl Ga22 (by decide)) <| Nt <| We ?_ ?_
     ·exact ⟨V rfl, V rfl, V rfl, V rfl, V rfl, V rfl, V rfl, V rfl, V rfl, V rfl, V rfl, V rfl, V rfl, V rfl, V rfl, Z⟩
     ·exact ⟨⟨_, rfl, ⟨rfl, rfl, (An rfl)⟩⟩, ⟨_, rfl, ⟨rfl, rfl, (An rfl)⟩⟩, ⟨_, rfl, rfl⟩, ⟨_, rfl, ⟨rfl, rfl, (An rfl)⟩⟩, ⟨_, rfl, rfl⟩, Z⟩
   ·intro e hdn he hdp
    have h8 : e 8 = false := fls he fun q => by obtain ⟨r7, -, -, -, -, -, -, -, -, -⟩ := (show e 7 = true ∧ e 5 = true ∧ e 5 = true ∧ e 0 = true ∧ e 1 = true ∧ e 2 = true ∧ e 3 = true ∧ e 4 = true ∧ e 5 = true ∧ True from hdn 8 q); obtain ⟨r6, -, -, -, -, -, -, -⟩ := (show e 6 = true ∧ e 0 = true ∧ e 1 = true ∧ e 2 = true ∧ e 3 = true ∧ e 4 = true ∧ e 5 = true ∧ True from hdn 7 r7); obtain ⟨-, r2, -, -, -, -, -, -, -⟩ := (show e 1 = true ∧ e 2 = true ∧ e 0 = true ∧ e 1 = true ∧ e 2 = true ∧ e 3 = true ∧ e 4 = true ∧ e 5 = true ∧ True from hdn 6 r6); exact r2
    simp only [setE, he, h8, cj_t, cj_f, cjn_t, cjn_f, cb_t, cb_f]
    exact U (Mv (V rfl)) <| Nt <| weakS ⟨V rfl, V rfl, V rfl, V rfl, V rfl, V rfl, V rfl, V rfl, V rfl, V rfl, V rfl, V rfl, V rfl, V rfl, V rfl, Z⟩
   ·intro e hdn he hdp
    have h5 : e 5 = false := fls he fun q => by obtain ⟨r4, -⟩ := (show e 4 = true ∧ True from hdn 5 q); obtain ⟨r3, -⟩ := (show e 3 = true ∧ True from hdn 4 r4); exact r3
    have h8 : e 8 = false := fls he fun q => by obtain ⟨r7, -, -, -, -, -, -, -, -, -⟩ := (show e 7 = true ∧ e 5 = true ∧ e 5 = true ∧ e 0 = true ∧ e 1 = true ∧ e 2 = true ∧ e 3 = true ∧ e 4 = true ∧ e 5 = true ∧ True from hdn 8 q); obtain ⟨r6, -, -, -, -, -, -, -⟩ := (show e 6 = true ∧ e 0 = true ∧ e 1 = true ∧ e 2 = true ∧ e 3 = true ∧ e 4 = true ∧ e 5 = true ∧ True from hdn 7 r7); obtain ⟨-, -, -, -, -, -, -, r5, -⟩ := (show e 1 = true ∧ e 2 = true ∧ e 0 = true ∧ e 1 = true ∧ e 2 = true ∧ e 3 = true ∧ e 4 = true ∧ e 5 = true ∧ True from hdn 6 r6); obtain ⟨r4, -⟩ := (show e 4 = true ∧ True from hdn 5 r5); obtain ⟨r3, -⟩ := (show e 3 = true ∧ True from hdn 4 r4); exact r3
    simp only [setE, he, h5, h8, cj_t, cj_f, cjn_t, cjn_f, cb_t, cb_f]
    refine U (FlB _ _ (V rfl) Un61 rfl 0 Sz33) <| Nt <| We ?_ ?_
    ·exact ⟨V rfl, V rfl, V rfl, V rfl, V rfl, Vj, V rfl, V rfl, V rfl, V rfl, V rfl, V rfl, V rfl, V rfl, V rfl, Z⟩
    ·exact ⟨⟨_, rfl, ⟨rfl, rfl, (An rfl)⟩⟩, ⟨_, rfl, ⟨rfl, rfl, (An rfl)⟩⟩, ⟨_, rfl, rfl⟩, ⟨_, rfl, ⟨rfl, rfl, (An rfl)⟩⟩, Z⟩
   ·intro e hdn he hdp
    obtain ⟨h3, -⟩ := (show e 3 = true ∧ True from hdp)
    have h5 : e 5 = false := fls he fun q => by obtain ⟨r4, -⟩ := (show e 4 = true ∧ True from hdn 5 q); exact r4
    have h8 : e 8 = false := fls he fun q => by obtain ⟨r7, -, -, -, -, -, -, -, -, -⟩ := (show e 7 = true ∧ e 5 = true ∧ e 5 = true ∧ e 0 = true ∧ e 1 = true ∧ e 2 = true ∧ e 3 = true ∧ e 4 = true ∧ e 5 = true ∧ True from hdn 8 q); obtain ⟨r6, -, -, -, -, -, -, -⟩ := (show e 6 = true ∧ e 0 = true ∧ e 1 = true ∧ e 2 = true ∧ e 3 = true ∧ e 4 = true ∧ e 5 = true ∧ True from hdn 7 r7); obtain ⟨-, -, -, -, -, -, -, r5, -⟩ := (show e 1 = true ∧ e 2 = true ∧ e 0 = true ∧ e 1 = true ∧ e 2 = true ∧ e 3 = true ∧ e 4 = true ∧ e 5 = true ∧ True from hdn 6 r6); obtain ⟨r4, -⟩ := (show e 4 = true ∧ True from hdn 5 r5); exact r4
    simp only [setE, h3, he, h5, h8, cj_t, cj_f, cjn_t, cjn_f, cb_t, cb_f]
    refine U (LdB (V rfl) rfl Ga33 (by decide)) <| Nt <| We ?_ ?_
    ·exact ⟨V rfl, V rfl, V rfl, V rfl, V rfl, Vj, V rfl, V rfl, V rfl, V rfl, V rfl, V rfl, V rfl, V rfl, V rfl, Z⟩
    ·exact ⟨⟨_, rfl, ⟨rfl, rfl, (An rfl)⟩⟩, ⟨_, rfl, ⟨rfl, rfl, (An rfl)⟩⟩, ⟨_, rfl, rfl⟩, ⟨_, rfl, ⟨rfl, rfl, (An rfl)⟩⟩, Z⟩
   ·intro e hdn he hdp
    obtain ⟨h4, -⟩ := (show e 4 = true ∧ True from hdp)
    obtain ⟨h3, -⟩ := (show e 3 = true ∧ True from hdn 4 h4)
    have h6 : e 6 = false := fls he fun q => by obtain ⟨-, -, -, -, -, -, -, r5, -⟩ := (show e 1 = true ∧ e 2 = true ∧ e 0 = true ∧ e 1 = true ∧ e 2 = true ∧ e 3 = true ∧ e 4 = true ∧ e 5 = true ∧ True from hdn 6 q); exact r5
    have h7 : e 7 = false := fls he fun q => by obtain ⟨r6, -, -, -, -, -, -, -⟩ := (show e 6 = true ∧ e 0 = true ∧ e 1 = true ∧ e 2 = true ∧ e 3 = true ∧ e 4 = true ∧ e 5 = true ∧ True from hdn 7 q); obtain ⟨-, -, -, -, -, -, -, r5, -⟩ := (show e 1 = true ∧ e 2 = true ∧ e 0 = true ∧ e 1 = true ∧ e 2 = true ∧ e 3 = true ∧ e 4 = true ∧ e 5 = true ∧ True from hdn 6 r6); exact r5
    have h8 : e 8 = false := fls he fun q => by obtain ⟨r7, -, -, -, -, -, -, -, -, -⟩ := (show e 7 = true ∧ e 5 = true ∧ e 5 = true ∧ e 0 = true ∧ e 1 = true ∧ e 2 = true ∧ e 3 = true ∧ e 4 = true ∧ e 5 = true ∧ True from hdn 8 q); obtain ⟨r6, -, -, -, -, -, -, -⟩ := (show e 6 = true ∧ e 0 = true ∧ e 1 = true ∧ e 2 = true ∧ e 3 = true ∧ e 4 = true ∧ e 5 = true ∧ True from hdn 7 r7); obtain ⟨-, -, -, -, -, -, -, r5, -⟩ := (show e 1 = true ∧ e 2 = true ∧ e 0 = true ∧ e 1 = true ∧ e 2 = true ∧ e 3 = true ∧ e 4 = true ∧ e 5 = true ∧ True from hdn 6 r6); exact r5
    simp only [setE, h3, h4, he, h6, h7, h8, cj_t, cj_f, cjn_t, cjn_f, cb_t, cb_f]
    refine CM (cargs := [inRow ((l.getD i default).kids)]) [] [(0, 5)] en61 (by exact ⟨(V rfl), Z⟩) (clone_ct ((l.getD i default).kids) (by omega)) (by exact Z) rfl (freshN_cons (fresh_mk ⟨(noId_cj rfl), (noId_cj rfl), (noId_cj rfl), rfl, rfl, rfl, rfl, rfl, rfl, rfl, rfl, rfl, rfl, rfl, rfl, Z⟩ rfl rfl) rfl rfl) rfl rfl <| Nt <| We ?_ ?_
    ·exact ⟨V rfl, V rfl, V rfl, V rfl, V rfl, V rfl, Vj, Vj, V rfl, V rfl, V rfl, V rfl, V rfl, V rfl, V rfl, Z⟩
    ·exact ⟨⟨_, rfl, ⟨rfl, rfl, (An rfl)⟩⟩, ⟨_, rfl, ⟨rfl, rfl, (An rfl)⟩⟩, ⟨_, rfl, rfl⟩, ⟨_, rfl, ⟨rfl, rfl, (An rfl)⟩⟩, ⟨_, rfl, rfl⟩, Z⟩
   ·intro e hdn he hdp
    obtain ⟨h1, h2, h0, -, -, h3, h4, h5, -⟩ := (show e 1 = true ∧ e 2 = true ∧ e 0 = true ∧ e 1 = true ∧ e 2 = true ∧ e 3 = true ∧ e 4 = true ∧ e 5 = true ∧ True from hdp)
    have h8 : e 8 = false := fls he fun q => by obtain ⟨r7, -, -, -, -, -, -, -, -, -⟩ := (show e 7 = true ∧ e 5 = true ∧ e 5 = true ∧ e 0 = true ∧ e 1 = true ∧ e 2 = true ∧ e 3 = true ∧ e 4 = true ∧ e 5 = true ∧ True from hdn 8 q); obtain ⟨r6, -, -, -, -, -, -, -⟩ := (show e 6 = true ∧ e 0 = true ∧ e 1 = true ∧ e 2 = true ∧ e 3 = true ∧ e 4 = true ∧ e 5 = true ∧ True from hdn 7 r7); exact r6
    simp only [setE, h0, h1, h2, h3, h4, h5, he, h8, cj_t, cj_f, cjn_t, cjn_f, cb_t, cb_f]
    refine U (IUn (i := i) (V rfl) rfl (V rfl) ts22 te22 (by omega)) <| Nt <| We ?_ ?_
    ·exact ⟨V rfl, V rfl, V rfl, V rfl, V rfl, V rfl, V rfl, V rfl, V rfl, V rfl, V rfl, V rfl, V rfl, V rfl, V rfl, Z⟩
    ·exact ⟨⟨_, rfl, ⟨rfl, rfl, (An rfl)⟩⟩, ⟨_, rfl, ⟨rfl, rfl, (An rfl)⟩⟩, ⟨_, rfl, rfl⟩, ⟨_, rfl, ⟨rfl, rfl, (An rfl)⟩⟩, ⟨_, rfl, rfl⟩, Z⟩
   ·intro e hdn he hdp
    obtain ⟨h6, h0, h1, h2, h3, h4, h5, -⟩ := (show e 6 = true ∧ e 0 = true ∧ e 1 = true ∧ e 2 = true ∧ e 3 = true ∧ e 4 = true ∧ e 5 = true ∧ True from hdp)
    have h8 : e 8 = false := fls he fun q => by obtain ⟨r7, -, -, -, -, -, -, -, -, -⟩ := (show e 7 = true ∧ e 5 = true ∧ e 5 = true ∧ e 0 = true ∧ e 1 = true ∧ e 2 = true ∧ e 3 = true ∧ e 4 = true ∧ e 5 = true ∧ True from hdn 8 q); exact r7
    simp only [setE, h0, h1, h2, h3, h4, h5, h6, he, h8, cj_t, cj_f, cjn_t, cjn_f, cb_t, cb_f]
    refine U (FlO _ _ (V rfl) Un61 rfl 0 Sz33) <| Nt <| We ?_ ?_
    ·exact ⟨V rfl, V rfl, V rfl, V rfl, V rfl, V rfl, V rfl, V rfl, V rfl, V rfl, V rfl, V rfl, V rfl, V rfl, V rfl, Z⟩
    ·exact ⟨⟨_, rfl, ⟨rfl, rfl, (An rfl)⟩⟩, ⟨_, rfl, ⟨rfl, rfl, (An rfl)⟩⟩, ⟨_, rfl, rfl⟩, ⟨_, rfl, ⟨rfl, rfl, (An rfl)⟩⟩, ⟨_, rfl, rfl⟩, Z⟩
   ·intro e hdn he hdp
    obtain ⟨h7, h5, -, h0, h1, h2, h3, h4, -, -⟩ := (show e 7 = true ∧ e 5 = true ∧ e 5 = true ∧ e 0 = true ∧ e 1 = true ∧ e 2 = true ∧ e 3 = true ∧ e 4 = true ∧ e 5 = true ∧ True from hdp)
    obtain ⟨h6, -, -, -, -, -, -, -⟩ := (show e 6 = true ∧ e 0 = true ∧ e 1 = true ∧ e 2 = true ∧ e 3 = true ∧ e 4 = true ∧ e 5 = true ∧ True from hdn 7 h7)
    simp only [setE, h0, h1, h2, h3, h4, h5, h6, h7, he, cj_t, cj_f, cjn_t, cjn_f, cb_t, cb_f]
    refine t_stH (V rfl) rfl (V rfl) (one_own rfl) Sz33 (by decide) (.inr ⟨rfl, by omega⟩) <| Nt <| We ?_ ?_
    ·exact ⟨V rfl, V rfl, V rfl, V rfl, V rfl, V rfl, V rfl, V rfl, V rfl, V rfl, V rfl, V rfl, V rfl, V rfl, V rfl, Z⟩
    ·exact ⟨⟨_, rfl, ⟨rfl, rfl, (An rfl)⟩⟩, ⟨_, rfl, ⟨rfl, rfl, (An rfl)⟩⟩, ⟨_, rfl, rfl⟩, ⟨_, rfl, ⟨rfl, rfl, (An rfl)⟩⟩, ⟨_, rfl, rfl⟩, Z⟩
   ·intro e he
    have h0 := he 0 (by decide)
    have h1 := he 1 (by decide)
    have h2 := he 2 (by decide)
    have h3 := he 3 (by decide)
    have h4 := he 4 (by decide)
    have h5 := he 5 (by decide)
    have h6 := he 6 (by decide)
    have h7 := he 7 (by decide)
    have h8 := he 8 (by decide)
    show Weak _ ⟨[(17, cj (e 0) (SV.bp 1 0)), (18, cj (e 1) (SV.own 3)), (19, cj (e 2) (iv ((i : Int)))), (20, cj (e 3) (SV.bp 4 5)), (21, cj (e 4) (inRow ((l.getD i default).kids))), (22, cj (e 5) (SV.own 5)), (23, cj (e 6) (SV.oe 3 8 i 0)), (24, cj (e 7) (SV.oe 3 8 i 5)), (1, SV.bp 1 0), (2, SV.bp 2 0), (3, iv ((i : Int))), (4, SV.bp 4 0), (10, SV.own 3), (11, iv ((l.length : Int))), (12, iv ((i : Int)))], (cb (e 5) (cb (e 8) [(1, Own.box 1 (upd (stG l) 0 (SV.own 3)) 24), (2, Own.box 1 (cmpG [SV.v (Value.slice none 0 0)]) 24), (3, urowOf ndCell 8 default l 61 5 Nd.kids inCell 1 0 3 i (some (i, SV.own 5))), (4, Own.box 8 (fun zi => ([bv ((l.getD i default).used), iv ((l.getD i default).uses), iv ((l.getD i default).tag), iv ((l.getD i default).mark), iv ((l.getD i default).par), inRow ((l.getD i default).kids), iv ((l.getD i default).host), bv ((l.getD i default).closed)] : List SV).getD zi .junk) 61), (5, ownOf inCell 1 0 ((l.getD i default).kids) 3)] [(1, Own.box 1 (upd (stG l) 0 (SV.own 3)) 24), (2, Own.box 1 (cmpG [SV.v (Value.slice none 0 0)]) 24), (3, urowOf ndCell 8 default l 61 5 Nd.kids inCell 1 0 3 i none), (4, Own.box 8 (fun zi => ([bv ((l.getD i default).used), iv ((l.getD i default).uses), iv ((l.getD i default).tag), iv ((l.getD i default).mark), iv ((l.getD i default).par), inRow ((l.getD i default).kids), iv ((l.getD i default).host), bv ((l.getD i default).closed)] : List SV).getD zi .junk) 61), (5, ownOf inCell 1 0 ((l.getD i default).kids) 3)]) (cb (e 8) [] [(1, Own.box 1 (upd (stG l) 0 (SV.own 3)) 24), (2, Own.box 1 (cmpG [SV.v (Value.slice none 0 0)]) 24), (3, urowOf ndCell 8 default l 61 5 Nd.kids inCell 1 0 3 i none), (4, Own.box 8 (fun zi => ([bv ((l.getD i default).used), iv ((l.getD i default).uses), iv ((l.getD i default).tag), iv ((l.getD i default).mark), iv ((l.getD i default).par), inRow ((l.getD i default).kids), iv ((l.getD i default).host), bv ((l.getD i default).closed)] : List SV).getD zi .junk) 61)]))⟩ _
    simp only [h0, h1, h2, h3, h4, h5, h6, h7, h8]
    show Weak _ ⟨[(17, SV.bp 1 0), (18, SV.own 3), (19, iv ((i : Int))), (20, SV.bp 4 5), (21, inRow ((l.getD i default).kids)), (22, SV.own 5), (23, SV.oe 3 8 i 0), (24, SV.oe 3 8 i 5), (1, SV.bp 1 0), (2, SV.bp 2 0), (3, iv ((i : Int))), (4, SV.bp 4 0), (10, SV.own 3), (11, iv ((l.length : Int))), (12, iv ((i : Int)))], [(1, Own.box 1 (upd (stG l) 0 (SV.own 3)) 24), (2, Own.box 1 (cmpG [SV.v (Value.slice none 0 0)]) 24), (3, urowOf ndCell 8 default l 61 5 Nd.kids inCell 1 0 3 i (some (i, SV.own 5))), (4, Own.box 8 (fun zi => ([bv ((l.getD i default).used), iv ((l.getD i default).uses), iv ((l.getD i default).tag), iv ((l.getD i default).mark), iv ((l.getD i default).par), inRow ((l.getD i default).kids), iv ((l.getD i default).host), bv ((l.getD i default).closed)] : List SV).getD zi .junk) 61), (5, ownOf inCell 1 0 ((l.getD i default).kids) 3)]⟩ _
    refine We ?_ ?_
    ·exact ⟨V rfl, V rfl, V rfl, V rfl, V rfl, V rfl, V rfl, V rfl, V rfl, V rfl, V rfl, V rfl, V rfl, V rfl, V rfl, Z⟩
    ·exact ⟨⟨_, rfl, ⟨rfl, rfl, (An rfl)⟩⟩, ⟨_, rfl, ⟨rfl, rfl, (An rfl)⟩⟩, ⟨_, rfl, rfl⟩, ⟨_, rfl, ⟨rfl, rfl, (An rfl)⟩⟩, ⟨_, rfl, rfl⟩, Z⟩
   refine Rq <| O (Ad (V rfl) K (by omega)) <| O (Mv (V rfl)) <| Nq <| Tk (turn_joinT 3 i 5 (i + 1) ({ (l.getD i default) with kids := (l.getD i default).kids }) rfl rfl rfl (by first | omega | (simp; omega)) (by omega) (by rw [if_neg (by omega)]) rfl rfl (fun t ht hne => match t, ht, hne with | 0, _, _ => rfl | 1, _, _ => rfl | 2, _, _ => rfl | 3, _, _ => rfl | 4, _, _ => rfl | 5, _, hne => absurd rfl hne | 6, _, _ => rfl | 7, _, _ => rfl) rfl) <| k_uE 3 l ((i + 1)) rfl (by exact set_kids (by omega)) (by first | rfl | omega) <| Nx (i + 1) (by show (i + 1) ≤ l.length; first | omega | (simp; done) | (refine ⟨?_, ?_⟩ <;> first | omega | (simp; done))) (by show l.length - (i + 1) < l.length - i; omega) (We (ow := [(1, Own.box 1 (upd (stG l) 0 (SV.own 3)) 24), (2, Own.box 1 (cmpG [SV.v (Value.slice none 0 0)]) 24), (3, urowOf ndCell 8 default l 61 5 Nd.kids inCell 1 0 3 ((i + 1)) none)]) (Vs rfl) (by exact ⟨⟨_, rfl, rfl, rfl, (An rfl)⟩, ⟨_, rfl, rfl, rfl, (An rfl)⟩, ⟨_, rfl, rfl⟩, Z⟩))
  ·have hc1s := hc1; try simp only [BL] at hc1s
   exact Ex <| Sq <| Rt <| U (LBA (V rfl) rfl Ga24 Sz24 (by decide)) <| StA (V rfl) rfl (V rfl) Sz24 <| Nt <| c_mv 3 0 rfl rfl <| c_uE 0 l l.length rfl (by rfl) (by first | rfl | omega) <| Rx <| RM1 rfl (rv_aggI (g' := cmpG [SV.own 0]) (rv_cell (V rfl) rfl Ga24 Sz24) ⟨Z, Ir⟩) (by exact ⟨⟨_, rfl, rfl⟩, Z⟩) (by show SV.agg 1 (cmpG [SV.own 0]) = SV.agg 1 (cmpG [SV.own 0]); rfl)
end Go.Proofs.Ytmcdamcedemdiaa
namespace Go.Proofs.Ytmcdamcedemdiaa
open Go.RowKit Go.Eng
theorem both_ct (l : List Nd) (hs : List Hd) (hb : ∀ n ∈ l, n.kids.length ≤ 17592186043904) : Ct Try.prog 125 [SV.agg 1 (stG l), hdRow hs] (iv (firstSt l hs)) := by
 refine CtO 27 Try.func125 rfl rfl rfl fun E => row_lenA 0 (V (s := 0) rfl) rfl rfl fun hl0_0 => Rl (V (s := 1) rfl) fun hl1 => Sq <| Rt <| BxA 1 (V rfl) rfl rfl <| U (As K) <| Nt <| Sq <| Sq <| Rq <| O (LBA (V rfl) rfl Ga24 Sz24 (by decide)) <| CQ en44 (by exact ⟨⟨(Vi (g' := stG l) (V rfl) ⟨Z, Ir⟩), rfl⟩, Z⟩) (stcheck_ct l (by first | assumption | exact kb_nil | exact kb_of (by assumption))) <| O (As (V rfl)) <| Nq <| Sq <| Rq <| O (Mv (V rfl)) <| O (Qn (V rfl) K) <| Nq <| Cd (V rfl) (fun hc1 => ?_) (fun hc1 => ?_)
 ·have hc1s := hc1; try simp only [BL] at hc1s
  exact Sq <| Rq <| O (Mv (V rfl)) <| O (As (V rfl)) <| Nq <| Rx <| R1 rfl (V rfl) rfl (by show iv (checkSt l) = iv (firstSt l hs); rw [first_chk hc1s])
 ·have hc1s := hc1; try simp only [BL] at hc1s
  refine Sk <| Sq <| Sq <| Rq <| O (Mv (V rfl)) <| O (Ln (V rfl) ts80) <| O (Mv K) <| Nq <| Bo <| Lo (fun (i : Nat) => ⟨[(2, SV.bp 1 0), (14, hdRow hs), (15, iv ((hs.length : Int))), (16, iv ((i : Int)))], [(1, Own.box 1 (stG l) 24)]⟩) (fun (i : Nat) => i ≤ hs.length ∧ (hs.take i).foldl (stepH l) (checkSt l) = 0) (fun (i : Nat) => hs.length - i) 0 (by show 0 ≤ hs.length ∧ (hs.take 0).foldl (stepH l) (checkSt l) = 0; exact ⟨Nat.zero_le _, hc1s⟩) (We (ow := [(1, Own.box 1 (stG l) 24)]) (Vs rfl) (by exact ⟨⟨_, rfl, rfl, rfl, (An rfl)⟩, Z⟩)) <| ?_
  ·rintro i hI1
   have hJ1 : i ≤ hs.length ∧ (hs.take i).foldl (stepH l) (checkSt l) = 0 := hI1
   refine Sq <| Rq <| O (Lt (V rfl) (V rfl)) <| Nq <| Sq <| Cd (V rfl) (fun hc2 => ?_) (fun hc2 => ?_)
   ·have hc2s := hc2; try simp only [BL] at hc2s
    refine Sk <| Sq <| Bo <| Sq <| Rt <| U (IxN (i := i) (V rfl) (V rfl) ts80 te80 (by omega)) <| U (LdA (V rfl) Ga26 Sz26 (by decide)) <| Al 2 zero26 rfl rfl <| StA (V rfl) rfl (V rfl) Sz26 <| Nt <| Sq <| Rq <| O (LBA (V rfl) rfl Ga24 Sz24 (by decide)) <| O (LBA (V rfl) rfl Ga26 Sz26 (by decide)) <| CQ en45 (by exact ⟨⟨(Vi (g' := stG l) (V rfl) ⟨Z, Ir⟩), rfl⟩, ⟨(Vi (g' := hdCell ⟨(hs.getD i default).pl, (hs.getD i default).use⟩) (V rfl) ⟨⟨Z, Ir⟩, Ir⟩), rfl⟩, Z⟩) (holds_ct l (hs.getD i default)) <| O (As (V rfl)) <| Nq <| Sq <| Rq <| O (Mv (V rfl)) <| O (Qn (V rfl) K) <| Nq <| Cd (V rfl) (fun hc3 => ?_) (fun hc3 => ?_)
    ·have hc3s := hc3; try simp only [BL] at hc3s
     exact Sq <| Rq <| O (Mv (V rfl)) <| O (As (V rfl)) <| Nq <| Rx <| R1 rfl (V rfl) rfl (by show iv (holdsSt l (hs.getD i default)) = iv (firstSt l hs); rw [first_bad (by omega) hJ1.2 hc3s])
    ·have hc3s := hc3; try simp only [BL] at hc3s
     exact Sk <| Rq <| O (Ad (V rfl) K (by omega)) <| O (Mv (V rfl)) <| Nq <| Nx (i + 1) (by show (i + 1) ≤ hs.length ∧ (hs.take (i + 1)).foldl (stepH l) (checkSt l) = 0; exact ⟨by omega, by rw [foldl_take_s _ _ default _ _ (by omega), hJ1.2, stepH, if_pos rfl]; exact hc3s⟩) (by show hs.length - (i + 1) < hs.length - i; omega) (We (ow := [(1, Own.box 1 (stG l) 24)]) (Vs rfl) (by exact ⟨⟨_, rfl, rfl, rfl, (An rfl)⟩, Z⟩))
   ·have hc2s := hc2; try simp only [BL] at hc2s
    exact Ex <| Sq <| Rq <| O (As K) <| Nq <| Rx <| R1 rfl (V rfl) rfl (by show iv (0) = iv (firstSt l hs); exact congrArg iv (by rw [firstSt, ← List.take_of_length_le (show hs.length ≤ i by omega), hJ1.2]))
theorem under_ct (l : List Nd) (k top : Int) (hc : checkSt l = 0) (hk : -1 ≤ k ∧ k < (l.length : Int)) : Ct Try.prog 126 [SV.agg 1 (stG l), iv (k), iv (top)] (bv (underB l k top)) := by
 have h24 := checkSt_len hc
 refine CtO 18 Try.func126 rfl rfl rfl fun E => row_lenA 0 (V (s := 0) rfl) rfl rfl fun hl0_0 => Sq <| Rt <| BxA 1 (V rfl) rfl rfl <| U (As K) <| Nt <| Sq <| Bo <| Lo (fun (m : Nat) => ⟨[(1, iv (upN l m k)), (2, iv (top)), (3, SV.bp 1 0)], [(1, Own.box 1 (stG l) 24)]⟩) (fun (m : Nat) => m ≤ l.length ∧ ∀ q, q < m → ¬ upN l q k = top) (fun (m : Nat) => l.length - m) 0 (by show 0 ≤ l.length ∧ ∀ q, q < 0 → ¬ upN l q k = top; exact ⟨Nat.zero_le _, fun q hq => absurd hq (Nat.not_lt_zero q)⟩) (We (ow := [(1, Own.box 1 (stG l) 24)]) (Vs rfl) (by exact ⟨⟨_, rfl, rfl, rfl, (An rfl)⟩, Z⟩)) <| ?_
 ·rintro m hI1
  have hJ1 : m ≤ l.length ∧ ∀ q, q < m → ¬ upN l q k = top := hI1
  have hui := upN_in (checkSt_nodes hc) hk m
  refine Sq <| Sq <| Rq <| O (Mv (V rfl)) <| O (Ge (V rfl) K) <| Nq <| Cd (V rfl) (fun hc1 => ?_) (fun hc1 => ?_)
  ·have hc1s := hc1; try simp only [BL] at hc1s
   have hml := up_lt hc hk (m := m) (by omega)
   refine Sk <| Sq <| Bo <| Sq <| Rq <| O (Mv (V rfl)) <| O (Mv (V rfl)) <| O (Ql (V rfl) (V rfl)) <| Nq <| Cd (V rfl) (fun hc2 => ?_) (fun hc2 => ?_)
   ·have hc2s := hc2; try simp only [BL] at hc2s
    exact Sq <| Rq <| O (As K) <| Nq <| Rx <| R1 rfl (V rfl) rfl (by show bv (true) = bv (underB l k top); rw [under_yes hJ1.1 (by omega) hc2s])
   ·have hc2s := hc2; try simp only [BL] at hc2s
    exact Sk <| Rq <| O (FlB _ _ (V rfl) Un24 rfl 0 Sz22) <| O (LdB (V rfl) rfl Ga22 (by decide)) <| O (Mv (V rfl)) <| O (Ix (V rfl) (V rfl) ts22 te22 (by omega) (by omega)) <| O (LdA (V rfl) Ga61 Sz61 (by decide)) <| CQ en110 (by exact ⟨⟨(Vi (g' := ndCell ⟨(l.getD (Int.toNat (upN l m k)) default).used, (l.getD (Int.toNat (upN l m k)) default).uses, (l.getD (Int.toNat (upN l m k)) default).tag, (l.getD (Int.toNat (upN l m k)) default).mark, (l.getD (Int.toNat (upN l m k)) default).par, (l.getD (Int.toNat (upN l m k)) default).kids, (l.getD (Int.toNat (upN l m k)) default).host, (l.getD (Int.toNat (upN l m k)) default).closed⟩) (V rfl) ⟨⟨⟨⟨⟨⟨⟨⟨Z, Ir⟩, Ir⟩, Ir⟩, Ir⟩, Ir⟩, Ir⟩, Ir⟩, Ir⟩), rfl⟩, Z⟩) (above_ct (l.getD (Int.toNat (upN l m k)) default)) <| O (As (V rfl)) <| Nq <| Nx (m + 1) (by show (m + 1) ≤ l.length ∧ ∀ q, q < (m + 1) → ¬ upN l q k = top; exact ⟨by omega, all_s (p := fun q => ¬ upN l q k = top) hJ1.2 hc2s⟩) (by show l.length - (m + 1) < l.length - m; omega) (We (sl := [(1, iv (upN l ((m + 1)) k)), (2, iv (top)), (3, SV.bp 1 0)]) (ow := [(1, Own.box 1 (stG l) 24)]) (by exact ⟨val_eq (V rfl) (congrArg iv (by show above _ = up1 l (upN l m k); rw [up1, if_neg (by omega)])), V rfl, V rfl, Z⟩) (by exact ⟨⟨_, rfl, rfl, rfl, (An rfl)⟩, Z⟩))
  ·have hc1s := hc1; try simp only [BL] at hc1s
   exact Ex <| Sq <| Rq <| O (As K) <| Nq <| Rx <| R1 rfl (V rfl) rfl (by show bv (false) = bv (underB l k top); rw [under_no (m := m) (by omega) hJ1.2])
end Go.Proofs.Ytmcdamcedemdiaa
