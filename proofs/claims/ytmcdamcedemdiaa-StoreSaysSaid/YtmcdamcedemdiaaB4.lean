/- Stores: hands, nodes made, found, freed. -/
import Derived.Test.YtmcdamcedemdiaaB3
set_option linter.unusedVariables false
set_option linter.unusedSimpArgs false
namespace Go.Proofs.Ytmcdamcedemdiaa
open Go.RowKit Go.Eng
def holdsWho (l : List Nd) (h : Hd) : Bool := ((decide (h.pl < 0) || decide ((l.length : Int) ≤ h.pl)) || decide (h.use < 1)) || decide ((l.getD h.pl.toNat default).uses < h.use)
def holdsGone (l : List Nd) (h : Hd) : Bool := (!(l.getD h.pl.toNat default).used) || (!decide ((l.getD h.pl.toNat default).uses = h.use))
def holdsSt (l : List Nd) (h : Hd) : Int := if holdsWho l h = true then 4 else if holdsGone l h = true then 5 else 0
theorem holds_4 {l : List Nd} {h : Hd} (q : holdsWho l h = true) : holdsSt l h = 4 := if_pos q
theorem holds_5 {l : List Nd} {h : Hd} (q : holdsWho l h = false) (q2 : holdsGone l h = true) : holdsSt l h = 5 := by unfold holdsSt; rw [if_neg (ff q), if_pos q2]
theorem holds_0 {l : List Nd} {h : Hd} (q : holdsWho l h = false) (q2 : holdsGone l h = false) : holdsSt l h = 0 := by unfold holdsSt; rw [if_neg (ff q), if_neg (ff q2)]
theorem who_r (l : List Nd) (h : Hd) : ((!inI h.pl 0 ((l.length : Int) - 1)) || (!inI h.use 1 (l.getD h.pl.toNat default).uses)) = holdsWho l h := by
  unfold inI holdsWho
  rw [Bool.eq_iff_iff]
  simp only [Bool.or_eq_true, Bool.not_eq_true', Bool.and_eq_false_iff, decide_eq_false_iff_not, decide_eq_true_eq]
  omega
theorem gone_r {l : List Nd} {h : Hd} (q : holdsWho l h = false) : ((!(l.getD h.pl.toNat default).used) || decide (h.use < (l.getD h.pl.toNat default).uses)) = holdsGone l h := by
  simp only [holdsWho, Bool.or_eq_false_iff, decide_eq_false_iff_not] at q
  have : decide (h.use < (l.getD h.pl.toNat default).uses) = !decide ((l.getD h.pl.toNat default).uses = h.use) := by
    rw [← decide_not, Bool.eq_iff_iff, decide_eq_true_iff, decide_eq_true_iff]; omega
  unfold holdsGone
  rw [this]
theorem who_in {l : List Nd} {h : Hd} (q : holdsWho l h = false) : 0 ≤ h.pl ∧ h.pl < (l.length : Int) ∧ 1 ≤ h.use ∧ h.use ≤ (l.getD h.pl.toNat default).uses := by
  simp only [holdsWho, Bool.or_eq_false_iff, decide_eq_false_iff_not] at q; omega
theorem holds_in {l : List Nd} {h : Hd} (q : holdsSt l h = 0) : 0 ≤ h.pl ∧ h.pl < (l.length : Int) ∧ 1 ≤ h.use ∧ (l.getD h.pl.toNat default).used = true ∧ (l.getD h.pl.toNat default).uses = h.use := by
  unfold holdsSt at q
  split at q; · cases q
  rename_i h1
  split at q; · cases q
  rename_i h2
  obtain ⟨a, b, c, d⟩ := who_in (by simpa using h1)
  have h2 : holdsGone l h = false := by simpa using h2
  simp only [holdsGone, Bool.or_eq_false_iff, Bool.not_eq_false', decide_eq_true_eq] at h2
  exact ⟨a, b, c, h2.1, h2.2⟩
def stepH (l : List Nd) (e : Int) (h : Hd) : Int := if e = 0 then holdsSt l h else e
def firstSt (l : List Nd) (hs : List Hd) : Int := hs.foldl (stepH l) (checkSt l)
theorem foldl_take_s {α β : Type} (f : β → α → β) (b : β) (d : α) (l : List α) (i : Nat) (h : i < l.length) : (l.take (i + 1)).foldl f b = f ((l.take i).foldl f b) (l.getD i d) := by
  rw [take_s d h, List.foldl_append]; rfl
theorem checkSt_len {l : List Nd} (h : checkSt l = 0) : l.length ≤ 24 := by
  unfold checkSt at h
  split at h
  · cases h
  · omega
theorem checkSt_nodes {l : List Nd} (h : checkSt l = 0) : nodesErr l = 0 := by
  unfold checkSt at h
  split at h
  · cases h
  · split at h
    · rename_i h1; exact absurd h h1
    · rename_i h1; simpa using h1
theorem checkSt_links {l : List Nd} (h : checkSt l = 0) : linksB l = true := by
  unfold checkSt at h
  split at h
  · cases h
  · split at h
    · rename_i h1; exact absurd h h1
    · split at h
      · assumption
      · cases h
theorem checkSt_of {l : List Nd} (h1 : l.length ≤ 24) (h2 : nodesErr l = 0) (h3 : linksB l = true) : checkSt l = 0 := by
  unfold checkSt; rw [if_neg (by omega), h2, if_neg (by simp), if_pos h3]
theorem count_flat_le (c : Int) : ∀ {l : List Nd} {x : Nd}, x ∈ l → x.kids.count c ≤ (l.flatMap Nd.kids).count c
  | y :: r, _, .head _ => by rw [List.flatMap_cons, List.count_append]; exact Nat.le_add_right _ _
  | y :: r, x, .tail _ h => by rw [List.flatMap_cons, List.count_append]; exact Nat.le_trans (count_flat_le c h) (Nat.le_add_left _ _)
/-- Each has few children. -/
theorem kids_few {l : List Nd} (h : checkSt l = 0) {i : Nat} (hi : i < l.length) : (l.getD i default).kids.length ≤ 24 := by
  have hl := linksB_iff.1 (checkSt_links h)
  have h24 := checkSt_len h
  have hn := nodesErr_at (checkSt_nodes h) hi
  have hnd : (l.getD i default).kids.Nodup := by
    rw [List.nodup_iff_count]
    intro c
    by_cases hc : c ∈ (l.getD i default).kids
    · have h1 := (hl i hi).1
      simp only [link1, Bool.and_eq_true, List.all_eq_true] at h1
      have h2 := h1.1 c hc
      simp only [kidOk, Bool.and_eq_true, decide_eq_true_eq] at h2
      have h3 := (hl c.toNat (by have := hn.kids c hc; omega)).2
      simp only [link2, Bool.and_eq_true, decide_eq_true_eq, kcnt] at h3
      have h4 := count_flat_le c (mem_getD (d := default) hi)
      have e : ((c.toNat : Nat) : Int) = c := by omega
      have h5 := h3.1.1.1
      rw [e] at h5
      exact Nat.le_trans h4 (of_decide_eq_true h5)
    · rw [List.count_eq_zero_of_not_mem hc]; exact Nat.zero_le _
  have := nodup_bound l.length _ hnd fun k hk => by
    have h1 := (hl i hi).1
    simp only [link1, Bool.and_eq_true, List.all_eq_true] at h1
    have h2 := h1.1 k hk
    simp only [kidOk, Bool.and_eq_true, decide_eq_true_eq] at h2
    exact ⟨h2.1.1, (hn.kids k hk).2⟩
  omega
theorem kb_nil : ∀ n ∈ ([] : List Nd), n.kids.length ≤ 17592186043904 := fun _ h => (by cases h)
theorem kb_of {l : List Nd} (h : checkSt l = 0) : ∀ n ∈ l, n.kids.length ≤ 17592186043904 := fun n hn => by
  obtain ⟨i, hi, rfl⟩ := getD_of_mem default hn
  have := kids_few h hi
  omega
def nd0 : Nd := ⟨false, 0, 0, 0, 0, [], 0, false⟩
def findSt (l : List Nd) (h : Hd) : Nd × Int := if checkSt l ≠ 0 then (nd0, checkSt l) else if holdsSt l h ≠ 0 then (nd0, holdsSt l h) else (l.getD h.pl.toNat default, 0)
theorem find_1 {l : List Nd} {h : Hd} (q : ¬ checkSt l = 0) : findSt l h = (nd0, checkSt l) := if_pos q
theorem find_2 {l : List Nd} {h : Hd} (q : checkSt l = 0) (q2 : ¬ holdsSt l h = 0) : findSt l h = (nd0, holdsSt l h) := by unfold findSt; rw [if_neg (not_not_intro q), if_pos q2]
theorem find_3 {l : List Nd} {h : Hd} (q : checkSt l = 0) (q2 : holdsSt l h = 0) : findSt l h = (l.getD h.pl.toNat default, 0) := by unfold findSt; rw [if_neg (not_not_intro q), if_neg (not_not_intro q2)]
/-- Room for one more in a place. -/
def roomB (n : Nd) : Bool := (!n.used) && decide (n.uses < 1000000)
def mkAt (l : List Nd) (k : Nat) (tag : Int) : List Nd := l.set k { (l.getD k default) with used := true, tag := tag, uses := (l.getD k default).uses + 1 }
def mkSt (l : List Nd) (tag : Int) : List Nd × Hd × Int :=
  if checkSt l ≠ 0 then ([], ⟨0, 0⟩, checkSt l) else if tag < 0 ∨ 99 < tag then ([], ⟨0, 0⟩, 2) else if idxF roomB l < 0 then ([], ⟨0, 0⟩, 1)
  else (mkAt l (idxF roomB l).toNat tag, ⟨idxF roomB l, (l.getD (idxF roomB l).toNat default).uses + 1⟩, 0)
def freeBad (l : List Nd) (k : Int) : Bool := ((decide (0 ≤ above (l.getD k.toNat default)) || decide (0 < ((l.getD k.toNat default).kids.length : Int)))) || l.any (fun n => decide (n.host = k))
def freeSt (l : List Nd) (h : Hd) : List Nd × Int :=
  if (findSt l h).2 ≠ 0 then ([], (findSt l h).2) else if freeBad l h.pl = true then ([], 6) else (l.set h.pl.toNat ⟨false, (l.getD h.pl.toNat default).uses, 0, 0, -1, [], -1, false⟩, 0)
end Go.Proofs.Ytmcdamcedemdiaa
