/- What the proof of SlotOnce rests on, part 5: the engine, the walks, the plain laws. -/
import Derived.Test.YtmcdamcedemdiaaSlotOnceM4
set_option linter.unusedVariables false
set_option linter.unusedSimpArgs false
namespace Go.Proofs.Ytmcdamcedemdiaa
open Go.RowKit Go.Eng
theorem givenK_cases (l : List Nd) (k r : Int) : (givenK l k r = -1 ∧ ∀ x ∈ slotsR l r, ¬ k ∈ x.given) ∨ ∃ x ∈ slotsR l r, k ∈ x.given ∧ givenK l k r = x.pl := by
  unfold givenK
  rcases idxF_cases (fun x : Sl => decide (k ∈ x.given)) default (slotsR l r) with ⟨e, ha⟩ | ⟨i, e, hi, hp, _⟩
  · rw [e, if_pos (by omega)]
    exact .inl ⟨rfl, fun x hx => of_decide_eq_false (ha x hx)⟩
  · rw [e, if_neg (by omega), Int.toNat_natCast]
    exact .inr ⟨_, mem_getD hi, of_decide_eq_true hp, rfl⟩
section
variable {l : List Nd}
theorem given_is (h : checkSt l = 0) {c r : Int} {x : Sl} (hr : 0 ≤ r ∧ r < (l.length : Int)) (hH : 0 ≤ (l.getD r.toNat default).host) (hx : x ∈ slotsR l r) (hc : c ∈ x.given) : givenI l c = x.pl ∧ (l.getD c.toNat default).par = (l.getD r.toNat default).host := by
  have h1 := sl_given hx hc
  have hin := host_in h hr rfl hH
  have h2 := kid_above h ⟨hH, hin.1⟩ h1.2.1
  refine ⟨?_, h2.2.2.1⟩
  unfold givenI
  rw [h2.2.2.1, if_neg (by omega), rt_of h hr rfl hH, if_neg (by omega)]
  rcases givenK_cases l c r with ⟨_, ha⟩ | ⟨y, hy, hcy, e⟩
  · exact absurd hc (ha x hx)
  · rw [e, sl_uniq hy hx hcy hc]
def FlI (l : List Nd) (k : Int) (i : Nat) (L : List Int) : Prop := ∃ done rest : List Int, L = done ++ rest ∧ done.length = i ∧ done ++ rest.flatMap (flatP l) = flatP l k ∧ ∀ x ∈ rest, Under (shownL l) k x
theorem fl_0 (l : List Nd) (k : Int) : FlI l k 0 [k] := ⟨[], [k], rfl, rfl, by simp, fun x hx => by rw [List.mem_singleton] at hx; rw [hx]; exact .refl⟩
theorem flat_eq (h : checkSt l = 0) {k x : Int} (hk : 0 ≤ k ∧ k < (l.length : Int)) (u : Under (shownL l) k x) : flatP l x = x :: (shownL l x).flatMap (flatP l) := pre_eq (shown_ranked h hk) u
theorem flat_long (h : checkSt l = 0) {k : Int} (hk : 0 ≤ k ∧ k < (l.length : Int)) : ∀ rest : List Int, (∀ x ∈ rest, Under (shownL l) k x) → rest.length ≤ (rest.flatMap (flatP l)).length
  | [], _ => Nat.zero_le _
  | x :: r, u => by
    rw [List.flatMap_cons, List.length_append, flat_eq h hk (u x (.head _)), List.length_cons, List.length_cons]
    have := flat_long h hk r fun y hy => u y (.tail _ hy)
    omega
theorem fl_len (h : checkSt l = 0) {k : Int} {i : Nat} {L : List Int} (hk : 0 ≤ k ∧ k < (l.length : Int)) (I : FlI l k i L) : i ≤ L.length ∧ L.length ≤ (flatP l k).length := by
  obtain ⟨done, rest, rfl, hd, e, u⟩ := I
  have := flat_long h hk rest u
  rw [← e, List.length_append, List.length_append]
  omega
theorem fl_s (h : checkSt l = 0) {k : Int} {i : Nat} {L : List Int} (hk : 0 ≤ k ∧ k < (l.length : Int)) (I : FlI l k i L) (hi : i < L.length) :
    FlI l k (i + 1) (L.take (i + 1) ++ shownL l (L.getD i 0) ++ L.drop (i + 1)) ∧ Under (shownL l) k (L.getD i 0) := by
  obtain ⟨done, rest, rfl, hd, e, u⟩ := I
  cases rest with
  | nil => rw [List.append_nil] at hi; omega
  | cons x r =>
    have hx : (done ++ x :: r).getD i 0 = x := by
      rw [List.getD_eq_getElem?_getD, List.getElem?_append_right (by omega), show i - done.length = 0 by omega]; rfl
    have ht : (done ++ x :: r).take (i + 1) = done ++ [x] := by
      rw [List.take_append, List.take_of_length_le (by omega), show i + 1 - done.length = 1 by omega]; rfl
    have hdr : (done ++ x :: r).drop (i + 1) = r := by
      rw [List.drop_append, List.drop_of_length_le (by omega), show i + 1 - done.length = 1 by omega]; rfl
    have ux := u x (.head _)
    rw [hx, ht, hdr]
    refine ⟨⟨done ++ [x], shownL l x ++ r, by rw [List.append_assoc, List.append_assoc], by rw [List.length_append]; show done.length + 1 = i + 1; omega, ?_, fun y hy => ?_⟩, ux⟩
    · rw [← e]
      exact (flat_step (shown_ranked h hk) ux).symm
    · rcases List.mem_append.1 hy with hy | hy
      · exact .step ux hy
      · exact u y (.tail _ hy)
theorem fl_end {k : Int} {i : Nat} {L : List Int} (I : FlI l k i L) (hi : L.length ≤ i) : L = flatP l k := by
  obtain ⟨done, rest, rfl, hd, e, u⟩ := I
  have : rest = [] := List.eq_nil_of_length_eq_zero (by rw [List.length_append] at hi; omega)
  subst this
  exact e
def slotsK (l : List Nd) (k : Int) : List Sl := if rtI l k < 0 then [] else slotsR l (rtI l k)
def slotsSt (l : List Nd) (h : Hd) : List Sl × Int := if firstSt l [h] ≠ 0 then ([], firstSt l [h]) else (slotsK l h.pl, 0)
def givenSt (l : List Nd) (h : Hd) : Int × Int := if firstSt l [h] ≠ 0 then (0, firstSt l [h]) else (givenI l h.pl, 0)
def flatSt (l : List Nd) (h : Hd) : List Int × Int := if firstSt l [h] ≠ 0 then ([], firstSt l [h]) else (flatP l h.pl, 0)
theorem slots_1 {h : Hd} (q : ¬ firstSt l [h] = 0) : slotsSt l h = ([], firstSt l [h]) := if_pos q
theorem slots_2 {h : Hd} (q : firstSt l [h] = 0) : slotsSt l h = (slotsK l h.pl, 0) := if_neg (not_not_intro q)
theorem given_1 {h : Hd} (q : ¬ firstSt l [h] = 0) : givenSt l h = (0, firstSt l [h]) := if_pos q
theorem given_2 {h : Hd} (q : firstSt l [h] = 0) : givenSt l h = (givenI l h.pl, 0) := if_neg (not_not_intro q)
theorem flat_1 {h : Hd} (q : ¬ firstSt l [h] = 0) : flatSt l h = ([], firstSt l [h]) := if_pos q
theorem flat_2 {h : Hd} (q : firstSt l [h] = 0) : flatSt l h = (flatP l h.pl, 0) := if_neg (not_not_intro q)
theorem flat_ok {h : Hd} (e : (flatSt l h).2 = 0) : firstSt l [h] = 0 ∧ (flatSt l h).1 = flatP l h.pl := by
  have h1 : firstSt l [h] = 0 := Classical.byContradiction fun c => by rw [flat_1 c] at e; exact c e
  exact ⟨h1, by rw [flat_2 h1]⟩
theorem slotsK_0 {k : Int} (q : rtI l k < 0) : slotsK l k = [] := if_pos q
theorem slotsK_1 {k : Int} (q : ¬ rtI l k < 0) : slotsK l k = slotsR l (rtI l k) := if_neg q
def hostF (l : List Nd) (a k : Int) : Int := if 0 ≤ (l.getD k.toNat default).host then (l.getD k.toNat default).host else a
def hostS (l : List Nd) (k : Int) : Int := (line l k).foldl (hostF l) k
theorem host_line (h : checkSt l = 0) : ∀ k, 0 ≤ k ∧ k < (l.length : Int) → ∀ a, ((line l k).foldl (hostF l) a = a ∧ ∀ y ∈ line l k, (l.getD y.toNat default).host < 0) ∨
    ∃ r ∈ line l k, (0 ≤ r ∧ r < (l.length : Int)) ∧ (l.getD r.toNat default).host = (line l k).foldl (hostF l) a ∧ 0 ≤ (line l k).foldl (hostF l) a ∧ ∀ y ∈ line l ((line l k).foldl (hostF l) a), (l.getD y.toNat default).host < 0 :=
  line_ind h (P := fun k => ∀ a, ((line l k).foldl (hostF l) a = a ∧ ∀ y ∈ line l k, (l.getD y.toNat default).host < 0) ∨
    ∃ r ∈ line l k, (0 ≤ r ∧ r < (l.length : Int)) ∧ (l.getD r.toNat default).host = (line l k).foldl (hostF l) a ∧ 0 ≤ (line l k).foldl (hostF l) a ∧ ∀ y ∈ line l ((line l k).foldl (hostF l) a), (l.getD y.toNat default).host < 0) fun k hk ih a => by
    rw [line_eq h hk, List.foldl_cons]
    by_cases q : 0 ≤ above (l.getD k.toNat default)
    · rcases ih q (hostF l a k) with ⟨e, hn⟩ | ⟨r, hr, h2, h3, h4, h5⟩
      · by_cases hh : 0 ≤ (l.getD k.toNat default).host
        · have ea : above (l.getD k.toNat default) = (l.getD k.toNat default).host := host_above h rfl hh
          have ef : hostF l a k = (l.getD k.toNat default).host := if_pos hh
          refine .inr ⟨k, .head _, hk, ?_, ?_, fun y hy => ?_⟩
          · rw [e, ef]
          · rw [e, ef]; exact hh
          · rw [e, ef, ← ea] at hy; exact hn y hy
        · have ef : hostF l a k = a := if_neg hh
          refine .inl ⟨by rw [e, ef], fun y hy => ?_⟩
          rcases List.mem_cons.1 hy with rfl | hy
          · omega
          · exact hn y hy
      · exact .inr ⟨r, .tail _ hr, h2, h3, h4, h5⟩
    · have e0 : line l (above (l.getD k.toNat default)) = [] := line_neg (by omega)
      have hh : ¬ 0 ≤ (l.getD k.toNat default).host := fun c => q (by rw [host_above h rfl c]; exact c)
      have ef : hostF l a k = a := if_neg hh
      rw [e0]
      refine .inl ⟨by rw [ef]; rfl, fun y hy => ?_⟩
      rw [List.mem_singleton] at hy
      rw [hy]; omega
theorem host_ok (h : checkSt l = 0) {k : Int} (hk : 0 ≤ k ∧ k < (l.length : Int)) : hostS l k ∈ line l k ∧ ∀ y ∈ line l (hostS l k), (l.getD y.toNat default).host < 0 := by
  rcases host_line h k hk k with ⟨e, hn⟩ | ⟨r, hr, h2, h3, h4, h5⟩
  · have e : hostS l k = k := e
    rw [e]; exact ⟨lnSelf h hk, hn⟩
  · refine ⟨line_trans h k hk hr ?_, h5⟩
    have h4 : 0 ≤ hostS l k := h4
    have h3 : (l.getD r.toNat default).host = hostS l k := h3
    rw [lnMem h h2, host_above h h3 h4]
    exact .inr (lnSelf h ⟨h4, (host_in h h2 h3 h4).1⟩)
theorem flat_host (h : checkSt l = 0) {k x c : Int} (hk : 0 ≤ k ∧ k < (l.length : Int)) (hc : c ∈ line l k) (hn : ∀ y ∈ line l c, (l.getD y.toNat default).host < 0) (u : Under (shownL l) k x) : c ∈ line l x := by
  induction u with
  | refl => exact hc
  | @step y d uy hm ih =>
    have hy := (under_in h hk uy).1
    have s := sh_cases hm
    have hd := (sh_in h hy s).1
    rw [lnMem h hd]
    refine .inr ?_
    cases s with
    | root r hr e hc2 =>
      rw [(kid_above h hr hc2).2.2.2.1, lnMem h hr, host_above h e hy.1]
      exact .inr ih
    | given z no hH hz e hc2 =>
      have h1 := given_of h hy hH hz hc2
      have ht := topLn h y hy
      rw [(kid_above h ⟨hH, h1.1⟩ h1.2).2.2.2.1]
      rcases line_two h y hy ih ht.1 with q | q
      · rcases (lnMem h ht.2.1).1 q with e2 | q
        · have := hn c (by rw [e2]; exact lnSelf h ht.2.1)
          rw [e2] at this; omega
        · rw [host_above h rfl hH] at q; exact q
      · have := hn _ q; omega
    | kid no hc2 =>
      rw [(kid_above h hy hc2).2.2.2.1]; exact ih
def seenK (L : List Int) : List (Int × Bool) := L.foldl (fun m c => kput m c true) []
theorem seenK_s {L : List Int} {i : Nat} (h : i < L.length) : seenK (L.take (i + 1)) = kput (seenK (L.take i)) (L.getD i 0) true := by
  unfold seenK; rw [foldl_take_s _ _ 0 _ _ h]
theorem seenK_app (L : List Int) (c : Int) : seenK (L ++ [c]) = kput (seenK L) c true := by unfold seenK; rw [List.foldl_append]; rfl
theorem seenK_get (j : Int) : ∀ (L : List Int) (m : List (Int × Bool)), (kget (L.foldl (fun m c => kput m c true) m) j).getD false = (decide (j ∈ L) || (kget m j).getD false)
  | [], m => rfl
  | c :: r, m => by
    rw [List.foldl_cons, seenK_get j r, kget_put]
    by_cases e : j = c
    · rw [if_pos e, decide_eq_true (show j ∈ c :: r by rw [e]; exact .head _)]; simp
    · rw [if_neg e]
      congr 1
      rw [Bool.eq_iff_iff, decide_eq_true_iff, decide_eq_true_iff, List.mem_cons]
      exact ⟨.inr, fun q => q.resolve_left e⟩
theorem seenK_any (L : List Int) (j : Int) : (kget (seenK L) j).getD false = decide (j ∈ L) := by
  rw [seenK, seenK_get]
  show (_ || (kget ([] : List (Int × Bool)) j).getD false) = _
  rw [show kget ([] : List (Int × Bool)) j = none from rfl]; simp
theorem flat_used (h : checkSt l = 0) {k x : Int} (hk : 0 ≤ k ∧ k < (l.length : Int)) (hu : (l.getD k.toNat default).used = true) (hx : x ∈ flatP l k) : (0 ≤ x ∧ x < (l.length : Int)) ∧ usedB l x = true := by
  have := under_in h hk (flat_under h hx)
  exact ⟨this.1, used_t.2 ⟨this.1, this.2.2.1 hu⟩⟩
theorem once_1 (h : checkSt l = 0) {k : Int} (hk : 0 ≤ k ∧ k < (l.length : Int)) (hu : (l.getD k.toNat default).used = true) {i : Nat} (hi : i < (flatP l k).length) :
    (((kget (seenK ((flatP l k).take i)) ((flatP l k).getD i 0)).getD false || !usedB l ((flatP l k).getD i 0)) || !decide (hostS l k ∈ line l ((flatP l k).getD i 0))) = false := by
  have hm := mem_getD (d := 0) hi
  have hf := flat_used h hk hu hm
  have ho := host_ok h hk
  rw [seenK_any, decide_eq_false (nodup_take (flat_nodup h hk) hi), hf.2, decide_eq_true (flat_host h hk ho.1 ho.2 (flat_under h hm))]; rfl
def gvnL (S : List Sl) (i j : Nat) : List Int := (S.take i).flatMap Sl.given ++ (S.getD i default).given.take j
theorem gvn_s {S : List Sl} {i j : Nat} (h : j < (S.getD i default).given.length) : gvnL S i (j + 1) = gvnL S i j ++ [(S.getD i default).given.getD j 0] := by
  unfold gvnL; rw [take_s 0 h, List.append_assoc]
theorem gvn_n {S : List Sl} {i j : Nat} (hi : i < S.length) (h : (S.getD i default).given.length ≤ j) : gvnL S i j = gvnL S (i + 1) 0 := by
  unfold gvnL
  rw [List.take_of_length_le h, take_s default hi, List.flatMap_append, List.take_zero, List.append_nil]; simp
theorem gvn_0 (S : List Sl) : gvnL S 0 0 = [] := by simp [gvnL]
theorem once_2 (h : checkSt l = 0) {r : Int} (hr : 0 ≤ r ∧ r < (l.length : Int)) (hH : 0 ≤ (l.getD r.toNat default).host) {i j : Nat} (hi : i < (slotsR l r).length) (hj : j < ((slotsR l r).getD i default).given.length) :
    ¬ ((slotsR l r).getD i default).given.getD j 0 ∈ gvnL (slotsR l r) i j ∧ givenI l (((slotsR l r).getD i default).given.getD j 0) = ((slotsR l r).getD i default).pl ∧ (l.getD (((slotsR l r).getD i default).given.getD j 0).toNat default).par = (l.getD r.toNat default).host ∧
      (0 ≤ ((slotsR l r).getD i default).given.getD j 0 ∧ ((slotsR l r).getD i default).given.getD j 0 < (l.length : Int)) ∧ (l.getD (((slotsR l r).getD i default).given.getD j 0).toNat default).used = true := by
  have hxm := mem_getD (d := default) hi
  have hcm := mem_getD (d := 0) hj
  have hg := given_is h hr hH hxm hcm
  have hs := sl_given hxm hcm
  have hka := kid_above h ⟨hH, (host_in h hr rfl hH).1⟩ hs.2.1
  refine ⟨fun q => ?_, hg.1, hg.2, hka.1, hka.2.1⟩
  rcases List.mem_append.1 q with q | q
  · obtain ⟨y, hy, hc⟩ := List.mem_flatMap.1 q
    obtain ⟨n, hn, e⟩ := getD_of_mem default hy
    rw [List.length_take] at hn
    have e2 : ((slotsR l r).take i).getD n default = (slotsR l r).getD n default := by simp only [List.getD_eq_getElem?_getD, List.getElem?_take, if_pos (show n < i by omega)]
    rw [e2] at e
    have hn2 : n < (slotsR l r).length := by omega
    have I := slInv l (l.getD r.toNat default).host (ordSt l r)
    have e3 : y = (slotsR l r).getD i default := sl_uniq (by rw [← e]; exact mem_getD hn2) hxm hc hcm
    have hnd : ((slotsR l r).map Sl.pl).Nodup := by
      have : (slotsR l r).map Sl.pl = (ordSt l r).filter fun k => decide (90 ≤ (l.getD k.toNat default).tag) := I.pls
      rw [this]; exact (ordS_nodup h hr).filter _
    have P := List.pairwise_iff_getElem.1 hnd n i (by simpa using hn2) (by simpa using hi) (by omega)
    refine P ?_
    rw [List.getElem_map, List.getElem_map, ← getD_lt (d := default) hn2, ← getD_lt (d := default) hi, e, e3]
  · have hgn : ((slotsR l r).getD i default).given.Nodup := by
      rw [hs.1]; exact (kids_nodup h (show (l.getD r.toNat default).host.toNat < l.length by have := (host_in h hr rfl hH).1; omega)).filter _
    exact nodup_take hgn hj q
theorem flat_head (h : checkSt l = 0) {k : Int} (hk : 0 ≤ k ∧ k < (l.length : Int)) : 0 < (flatP l k).length ∧ (flatP l k).getD 0 0 = k := by
  rw [flat_eq h hk .refl]
  exact ⟨by rw [List.length_cons]; omega, rfl⟩
end
end Go.Proofs.Ytmcdamcedemdiaa
namespace Go.Proofs.Ytmcdamcedemdiaa
open Go.RowKit Go.Eng
def off (B L : List Int) : List Int := L.filter fun x => !decide (x ∈ B)
section
variable {l a : List Nd} {p c : Hd} {ah : List Hd}
theorem hold_k {l : List Nd} (h : checkSt l = 0) {k : Nat} (hk : k < l.length) (hu : (l.getD k default).used = true) : holdsSt l ⟨(k : Int), (l.getD k default).uses⟩ = 0 := by
  have n1 := nodesErr_at (checkSt_nodes h) hk
  have h1 := n1.uses; have h2 := n1.use hu
  refine holds_0 ?_ ?_
  · simp only [holdsWho, Bool.or_eq_false_iff, decide_eq_false_iff_not, Int.toNat_natCast]; omega
  · simp only [holdsGone, Int.toNat_natCast, hu, decide_true, Bool.not_true, Bool.or_self]
end
end Go.Proofs.Ytmcdamcedemdiaa
namespace Go.Proofs.Ytmcdamcedemdiaa
open Go.RowKit Go.Eng
section
variable {l : List Nd} {h : Hd} {q : List Te} {t : Te}
theorem first_in {k : Int} (hc : checkSt l = 0) (hk : 0 ≤ k ∧ k < (l.length : Int)) (hu : (l.getD k.toNat default).used = true) : firstSt l [⟨k, (l.getD k.toNat default).uses⟩] = 0 := by
  have hh : holdsSt l ⟨k, (l.getD k.toNat default).uses⟩ = 0 := by
    have := hold_k hc (k := k.toNat) (by omega) hu
    rwa [show ((k.toNat : Nat) : Int) = k by omega] at this
  show [(⟨k, (l.getD k.toNat default).uses⟩ : Hd)].foldl (stepH l) (checkSt l) = 0
  rw [hc]
  show stepH l 0 _ = 0
  unfold stepH
  rw [if_pos rfl, hh]
end
end Go.Proofs.Ytmcdamcedemdiaa
namespace Go.Proofs.Ytmcdamcedemdiaa
open Go.RowKit Go.Eng
section
variable {l : List Nd} {H : Int}
theorem slotsL_s {L : List Int} {i : Nat} (h : i < L.length) : slotsL l H (L.take (i + 1)) = slStep l H (slotsL l H (L.take i)) (L.getD i 0) := by
  unfold slotsL; rw [foldl_take_s _ _ 0 _ _ h]
theorem slStep_no {S : List Sl} {k : Int} (h : (l.getD k.toNat default).tag < 90) : slStep l H S k = S := if_pos h
theorem slStep_new {S : List Sl} {k : Int} (h : ¬ (l.getD k.toNat default).tag < 90) (t : (S.any fun y => decide (y.num = (l.getD k.toNat default).tag - 90)) = false) : slStep l H S k = S ++ [⟨k, (l.getD k.toNat default).tag - 90, givL l H ((l.getD k.toNat default).tag - 90)⟩] := by
  unfold slStep; rw [if_neg h, if_neg (ff t)]
theorem slStep_old {S : List Sl} {k : Int} (h : ¬ (l.getD k.toNat default).tag < 90) (t : (S.any fun y => decide (y.num = (l.getD k.toNat default).tag - 90)) = true) : slStep l H S k = S ++ [⟨k, (l.getD k.toNat default).tag - 90, []⟩] := by
  unfold slStep; rw [if_neg h, if_pos t]
theorem slotsL_len : ∀ (L : List Int), (slotsL l H L).length ≤ L.length := fun L => by
  have I := slInv l H L
  have := congrArg List.length I.pls
  rw [List.length_map] at this
  rw [this]; exact List.length_filter_le _ _
def markF (l : List Nd) (n : Int) : Int → Bool := fun c => decide ((l.getD c.toNat default).mark = n)
theorem filt_1 {p : Int → Bool} {K : List Int} {j : Nat} (h : j < K.length) (e : p (K.getD j 0) = true) : (K.take j).filter p ++ [K.getD j 0] = (K.take (j + 1)).filter p := by
  rw [take_s 0 h, List.filter_append, List.filter_cons_of_pos e, List.filter_nil]
theorem filt_2 {p : Int → Bool} {K : List Int} {j : Nat} (h : j < K.length) (e : p (K.getD j 0) = false) : (K.take j).filter p = (K.take (j + 1)).filter p := by
  rw [take_s 0 h, List.filter_append, List.filter_cons_of_neg (ff e), List.filter_nil, List.append_nil]
theorem filt_e {n : Int} {j : Nat} (h : (l.getD H.toNat default).kids.length ≤ j) : ((l.getD H.toNat default).kids.take j).filter (markF l n) = givL l H n := by
  rw [List.take_of_length_le h]; rfl
def inG (k : Int) (x : Sl) : Bool := decide (k ∈ x.given)
def giv (S : List Sl) (k : Int) : Int := if idxF (inG k) S < 0 then -1 else (S.getD (idxF (inG k) S).toNat default).pl
theorem giv_hit {S : List Sl} {k : Int} {i : Nat} (hi : i < S.length) (h : ∀ j, j < i → inG k (S.getD j default) = false) (e : inG k (S.getD i default) = true) : giv S k = (S.getD i default).pl := by
  unfold giv; rw [idxF_hit default hi h e, if_neg (by omega), Int.toNat_natCast]
theorem giv_none {S : List Sl} {k : Int} {i : Nat} (hi : S.length ≤ i) (h : ∀ j, j < i → inG k (S.getD j default) = false) : giv S k = -1 := by
  unfold giv; rw [idxF_none default h hi, if_pos (by omega)]
theorem givenI_n {k : Int} (a : (l.getD k.toNat default).par < 0) : givenI l k = -1 := if_pos a
theorem givenI_r {k : Int} (a : ¬ (l.getD k.toNat default).par < 0) (b : rtI l (l.getD k.toNat default).par < 0) : givenI l k = -1 := by unfold givenI; rw [if_neg a, if_pos b]
theorem givenI_s {k : Int} (a : ¬ (l.getD k.toNat default).par < 0) (b : ¬ rtI l (l.getD k.toNat default).par < 0) : givenI l k = giv (slotsR l (rtI l (l.getD k.toNat default).par)) k := by
  unfold givenI; rw [if_neg a, if_neg b]; rfl
theorem rt_ge (l : List Nd) (k : Int) : -1 ≤ rtI l k ∧ rtI l k < (l.length : Int) := by
  rcases idxF_cases (fun n : Nd => decide (n.host = k)) default l with ⟨e, _⟩ | ⟨i, e, hi, _⟩
  · have e : rtI l k = -1 := e
    omega
  · have e : rtI l k = (i : Int) := e
    omega
theorem rt_all (h : checkSt l = 0) {k : Int} (hk : 0 ≤ k ∧ k < (l.length : Int)) (q : 0 ≤ rtI l k) : (0 ≤ rtI l k ∧ rtI l k < (l.length : Int)) ∧ (l.getD (rtI l k).toNat default).host = k ∧ (l.getD (rtI l k).toNat default).used = true := by
  have hh := rt_hit q
  exact ⟨⟨q, hh.1⟩, hh.2, (host_in h ⟨q, hh.1⟩ hh.2 hk.1).2.2.2⟩
theorem root_all (h : checkSt l = 0) {r : Int} (hr : 0 ≤ r ∧ r < (l.length : Int)) (hH : 0 ≤ (l.getD r.toNat default).host) : (l.getD r.toNat default).used = true ∧ (l.getD r.toNat default).host < (l.length : Int) := by
  have := host_in h hr rfl hH
  exact ⟨this.2.2.2, this.1⟩
theorem ord_self (h : checkSt l = 0) {r : Int} (hr : 0 ≤ r ∧ r < (l.length : Int)) (hu : (l.getD r.toNat default).used = true) : orderSt l ⟨r, (l.getD r.toNat default).uses⟩ = (ordSt l r, 0) := order_2 (h := ⟨r, (l.getD r.toNat default).uses⟩) (first_in h hr hu)
theorem ordm_in (h : checkSt l = 0) {r : Int} (hr : 0 ≤ r ∧ r < (l.length : Int)) {i : Nat} (hi : i < (ordSt l r).length) : 0 ≤ (ordSt l r).getD i 0 ∧ (ordSt l r).getD i 0 < (l.length : Int) := ord_in h _ r hr _ (mem_getD hi)
theorem kidm_in (h : checkSt l = 0) {k : Int} (hk : 0 ≤ k ∧ k < (l.length : Int)) {j : Nat} (hj : j < (l.getD k.toNat default).kids.length) : 0 ≤ (l.getD k.toNat default).kids.getD j 0 ∧ (l.getD k.toNat default).kids.getD j 0 < (l.length : Int) := (kid_up h hk (mem_getD hj)).1
theorem shown_r {k : Int} (q : 0 ≤ rtI l k) : shownL l k = (l.getD (rtI l k).toNat default).kids := if_pos q
theorem shown_hit {k : Int} {i : Nat} (q : ¬ 0 ≤ rtI l k) (t : 90 ≤ (l.getD k.toNat default).tag ∧ 0 ≤ (l.getD (topSt l k).toNat default).host) (hi : i < (slotsR l (topSt l k)).length) (h : ∀ j, j < i → inSlot k ((slotsR l (topSt l k)).getD j default) = false)
    (e : inSlot k ((slotsR l (topSt l k)).getD i default) = true) : shownL l k = ((slotsR l (topSt l k)).getD i default).given := by
  unfold shownL; rw [if_neg q, if_pos t]
  unfold shownS; rw [idxF_hit default hi h e, if_neg (by omega), Int.toNat_natCast]
theorem shown_none {k : Int} {i : Nat} (q : ¬ 0 ≤ rtI l k) (t : 90 ≤ (l.getD k.toNat default).tag ∧ 0 ≤ (l.getD (topSt l k).toNat default).host) (hi : (slotsR l (topSt l k)).length ≤ i) (h : ∀ j, j < i → inSlot k ((slotsR l (topSt l k)).getD j default) = false) : shownL l k = (l.getD k.toNat default).kids := by
  unfold shownL; rw [if_neg q, if_pos t]
  unfold shownS; rw [idxF_none default h hi, if_pos (by omega)]
theorem shown_k {k : Int} (q : ¬ 0 ≤ rtI l k) (t : ¬ (90 ≤ (l.getD k.toNat default).tag ∧ 0 ≤ (l.getD (topSt l k).toNat default).host)) : shownL l k = (l.getD k.toNat default).kids := by
  unfold shownL; rw [if_neg q, if_neg t]
theorem slotsR_len (h : checkSt l = 0) {r : Int} (hr : 0 ≤ r ∧ r < (l.length : Int)) : (slotsR l r).length ≤ 24 := by
  have h1 := slotsL_len (l := l) (H := (l.getD r.toNat default).host) (ordSt l r)
  have h2 := ord_len h hr
  have h3 := checkSt_len h
  show (slotsL l _ (ordSt l r)).length ≤ 24
  omega
theorem inSlot_t {k : Int} {x : Sl} (e : (decide (x.pl = k) && decide (0 < (x.given.length : Int))) = true) : inSlot k x = true := by
  rw [Bool.and_eq_true, decide_eq_true_iff, decide_eq_true_iff] at e
  unfold inSlot
  rw [decide_eq_true e.1, decide_eq_true (show 0 < x.given.length by omega)]; rfl
theorem inSlot_f {k : Int} {x : Sl} (e : (decide (x.pl = k) && decide (0 < (x.given.length : Int))) = false) : inSlot k x = false := by
  cases hx : inSlot k x with
  | false => rfl
  | true =>
    unfold inSlot at hx
    rw [Bool.and_eq_true, decide_eq_true_iff, decide_eq_true_iff] at hx
    rw [decide_eq_true hx.1, decide_eq_true (show 0 < (x.given.length : Int) by omega)] at e
    cases e
end
end Go.Proofs.Ytmcdamcedemdiaa
namespace Go.Proofs.Ytmcdamcedemdiaa
open Go.RowKit Go.Eng
theorem hostIs_ct (n : Nd) (k : Int) : Ct Try.prog 141 [SV.agg 8 (ndCell n), elB [iv (k)] 0] (bv (decide (n.host = k))) := by
 exact CtO 8 Try.func141 rfl rfl rfl fun E => row_lenA 5 (V (s := 0) rfl) rfl rfl fun hl0_5 => Sq <| Rt <| BxA 1 (V rfl) rfl rfl <| U (As K) <| Nt <| Sq <| Rq <| O (FlB _ _ (V rfl) Un61 rfl 0 Sz3) <| O (LdB (V rfl) rfl Ga3 (by decide)) <| O (Ld (V rfl) Ga3 (by show 0 < 1; decide)) <| O (Ql (V rfl) (V rfl)) <| O (As (V rfl)) <| Nq <| Rx <| R1 rfl (V rfl) rfl (by show bv (decide (n.host = k)) = bv (decide (n.host = k)); rfl)
theorem root_ct (l : List Nd) (k : Int) : Ct Try.prog 96 [SV.agg 1 (stG l), iv (k)] (iv (rtI l k)) := by
 exact CtO 9 Try.func96 rfl rfl rfl fun E => row_lenA 0 (V (s := 0) rfl) rfl rfl fun hl0_0 => Sq <| Rt <| BxA 1 (V rfl) rfl rfl <| Bx1 2 (V rfl) rfl rfl rfl <| U (As K) <| Nt <| Sq <| c_frzB 2 [iv (k)] rfl rfl ⟨Z, rfl⟩ rfl <| Rt <| U (FlB _ _ (V rfl) Un24 rfl 0 Sz22) <| U (LdB (V rfl) rfl Ga22 (by decide)) <| U (Mk (caps := [elB [iv (k)] 0]) ⟨(V rfl), Z⟩) <| CT en113 (by exact ⟨⟨(V rfl), rfl⟩, ⟨(VA (VF [elB [iv (k)] 0] ((V rfl)) (An rfl)) rfl), rfl⟩, Z⟩) (idxf113_ct (fun n : Nd => decide (n.host = k)) en141 rfl (fun x => hostIs_ct x k) l) <| U (As (V rfl)) <| Nt <| Rx <| R1 rfl (V rfl) rfl (by show iv (idxF (fun n : Nd => decide (n.host = k)) l) = iv (rtI l k); rfl)
theorem idxf152_ct {f : FuncId} {caps : List SV} (p : Sl → Bool) (hE : Enters Try.prog f) (hro : allRO caps = true) (hC : ∀ x, Ct Try.prog f ([.agg 3 (slCell x)] ++ caps) (bv (p x))) (l : List Sl) : Ct Try.prog 152 [slRow l, fnA f caps] (iv (idxF p l)) := by
 refine CtO 19 Try.func152 rfl rfl rfl fun E => Rl (V (s := 0) rfl) fun hl0 => Sq <| Rq <| O (As K) <| Nq <| Sq <| Sq <| Rq <| O (Mv (V rfl)) <| O (Ln (V rfl) ts27) <| O (Mv K) <| Nq <| Bo <| Lo (fun (i : Nat) => ⟨[(0, slRow l), (1, fnA f caps), (7, iv ((l.length : Int))), (8, iv ((i : Int)))], []⟩) (fun (i : Nat) => i ≤ l.length ∧ ∀ j, j < i → p (l.getD j default) = false) (fun (i : Nat) => l.length - i) 0 (by show 0 ≤ l.length ∧ ∀ j, j < 0 → p (l.getD j default) = false; exact ⟨Nat.zero_le _, fun j hj => absurd hj (Nat.not_lt_zero _)⟩) (We (Vs rfl) Z) <| ?_
 ·rintro i hI1
  have hJ1 : i ≤ l.length ∧ ∀ j, j < i → p (l.getD j default) = false := hI1
  have hi1 := hJ1.1
  have hall := hJ1.2
  refine Sq <| Rq <| O (Lt (V rfl) (V rfl)) <| Nq <| Sq <| Cd (V rfl) (fun hc1 => ?_) (fun hc1 => ?_)
  ·have hc1s := hc1; try simp only [BL] at hc1s
   refine Sk <| Sq <| Bo <| Sq <| Rq <| O (Mv (V rfl)) <| O (As (V rfl)) <| Nq <| Sq <| Rq <| O (Mv (V rfl)) <| O (Mv (V rfl)) <| O (Mv (V rfl)) <| O (IxN (i := i) (V rfl) (V rfl) ts27 te27 (by clear hall hJ1 hI1; omega)) <| O (LdA (V rfl) Ga41 Sz41 (by decide)) <| CQv (args := [SV.agg 3 (slCell ⟨(l.getD i default).pl, (l.getD i default).num, (l.getD i default).given⟩)]) (caps := caps) (fnval_A (V rfl)) hro hE (by exact ⟨⟨(Vi (g' := slCell ⟨(l.getD i default).pl, (l.getD i default).num, (l.getD i default).given⟩) (V rfl) ⟨⟨⟨Z, Ir⟩, Ir⟩, Ir⟩), rfl⟩, Z⟩) (hC (l.getD i default)) <| Nq <| Cd (V rfl) (fun hc2 => ?_) (fun hc2 => ?_)
   ·have hc2s := hc2; try simp only [BL] at hc2s
    exact Sq <| Rq <| O (Mv (V rfl)) <| O (As (V rfl)) <| Nq <| Rx <| R1 rfl (V rfl) rfl (by show iv ((i : Int)) = iv (idxF p l); rw [idxF_hit default (by clear hall hJ1 hI1; omega) hall hc2])
   ·have hc2s := hc2; try simp only [BL] at hc2s
    exact Sk <| Rq <| O (Ad (V rfl) K (by clear hall hJ1 hI1; omega)) <| O (Mv (V rfl)) <| Nq <| Nx (i + 1) (by show (i + 1) ≤ l.length ∧ ∀ j, j < (i + 1) → p (l.getD j default) = false; exact ⟨by clear hall hJ1 hI1; omega, idxF_s hall hc2⟩) (by show l.length - (i + 1) < l.length - i; clear hall hJ1 hI1; omega) (We (Vs rfl) Z)
  ·have hc1s := hc1; try simp only [BL] at hc1s
   exact Ex <| Sq <| Rq <| O (As K) <| Nq <| Rx <| R1 rfl (V rfl) rfl (by show iv ((-1)) = iv (idxF p l); rw [idxF_none default hall (by clear hall hJ1 hI1; omega)])
theorem conf142_ct {f : FuncId} {caps : List SV} (p : Sl → Bool) (hE : Enters Try.prog f) (hro : allRO caps = true) (hC : ∀ x, Ct Try.prog f ([.agg 3 (slCell x)] ++ caps) (bv (p x))) (l : List Sl) : Ct Try.prog 142 [slRow l, fnA f caps] (bv (l.any p)) := by
 exact CtO 9 Try.func142 rfl rfl rfl fun E => Rl (V (s := 0) rfl) fun hl0 => Sq <| Rq <| O (As K) <| Nq <| Sq <| Rq <| O (Mv (V rfl)) <| O (Mv (V rfl)) <| CQ en152 (by exact ⟨⟨(V rfl), rfl⟩, ⟨(V rfl), rfl⟩, Z⟩) (idxf152_ct p hE hro hC l) <| O (Ge (V rfl) K) <| O (As (V rfl)) <| Nq <| Rx <| R1 rfl (V rfl) rfl (by show bv (decide (0 ≤ idxF p l)) = bv (l.any p); exact congrArg bv (idxF_any p l))
theorem sameNum_ct (y : Sl) (a b : Int) : Ct Try.prog 143 [SV.agg 3 (slCell y), elB [iv (a), iv (b), SV.v (Value.slice none 0 0)] 0] (bv (decide (y.num = b))) := by
 exact CtO 9 Try.func143 rfl rfl rfl fun E => row_lenA 2 (V (s := 0) rfl) rfl rfl fun hl0_2 => Sq <| Rt <| BxA 1 (V rfl) rfl rfl <| U (As K) <| Nt <| Sq <| Rq <| O (FlB _ _ (V rfl) Un41 rfl 0 Sz3) <| O (LdB (V rfl) rfl Ga3 (by decide)) <| O (Fl _ _ (V rfl) Un41 rfl 0 Sz3) <| O (Ld (V rfl) Ga3 (by show 1 < 3; decide)) <| O (Ql (V rfl) (V rfl)) <| O (As (V rfl)) <| Nq <| Rx <| R1 rfl (V rfl) rfl (by show bv (decide (y.num = b)) = bv (decide (y.num = b)); rfl)
theorem slots_ct (l : List Nd) (r : Int) (hc : checkSt l = 0) (hr : 0 ≤ r ∧ r < (l.length : Int)) (hH : 0 ≤ (l.getD (Int.toNat r) default).host) (hb : ∀ n ∈ l, n.kids.length ≤ 17592186043904) : Ct Try.prog 97 [SV.agg 1 (stG l), iv (r)] (slRow (slotsR l r)) := by
 have h24 := checkSt_len hc
 have hra := root_all hc hr hH
 have hol := ord_len hc hr
 have hkf := kids_few hc (i := Int.toNat (l.getD (Int.toNat r) default).host) (by omega)
 refine CtO 92 Try.func97 rfl rfl rfl fun E => row_lenA 0 (V (s := 0) rfl) rfl rfl fun hl0_0 => Sq <| Rt <| BxA 1 (V rfl) rfl rfl <| U (As (Vn (k := 3) (get := rowG slCell default []))) <| Nt <| Sq <| Rq <| O (FlB _ _ (V rfl) Un24 rfl 0 Sz22) <| O (LdB (V rfl) rfl Ga22 (by decide)) <| O (Mv (V rfl)) <| O (Ix (V rfl) (V rfl) ts22 te22 (by omega) (by omega)) <| O (Fl _ _ (V rfl) Un61 rfl 0 Sz3) <| O (Ld (V rfl) Ga3 (by decide)) <| O (As (V rfl)) <| Nq <| Sq <| c_rd (fun e => ⟨[(21, cj (e 0) (SV.agg 1 (fun zi => (stG l) (0 + zi)))), (22, cj (e 1) (iv (r))), (23, cj (e 2) (SV.bp 1 0)), (24, cj (e 3) (ndRow l)), (25, cj (e 4) (iv (r))), (26, cj (e 5) (SV.el l.length 8 (rowG ndCell default l) (Int.toNat r) 0)), (27, cj (e 6) (SV.el l.length 8 (rowG ndCell default l) (Int.toNat r) 1)), (28, cj (e 7) (iv ((l.getD (Int.toNat r) default).uses))), (29, cj (e 8) (SV.agg 2 (hdCell ⟨r, (l.getD (Int.toNat r) default).uses⟩))), (30, cj (e 9) (SV.renm (rn [(0, 2)]) (sv2 (SV.own 0) (iv (orderSt l ⟨r, (l.getD (Int.toNat r) default).uses⟩).2)))), (20, cj (e 10) (SV.renm (rn [(0, 2)]) (sv2 (SV.own 0) (iv (orderSt l ⟨r, (l.getD (Int.toNat r) default).uses⟩).2)))), (31, cj (e 11) (SV.own 2)), (32, cj (e 12) (iv ((orderSt l ⟨r, (l.getD (Int.toNat r) default).uses⟩).2))), (6, cj (e 13) (SV.own 2)), (7, cj (e 14) (iv ((orderSt l ⟨r, (l.getD (Int.toNat r) default).uses⟩).2))), (1, iv (r)), (2, SV.bp 1 0), (5, iv ((l.getD (Int.toNat r) default).host))], (cb (e 9) [(1, Own.box 1 (stG l) 24), (2, ownOf inCell 1 0 ((orderSt l ⟨r, (l.getD (Int.toNat r) default).uses⟩).1) 3)] [(1, Own.box 1 (stG l) 24)])⟩) ⟨[(21, SV.agg 1 (fun zi => (stG l) (0 + zi))), (22, iv (r)), (23, SV.bp 1 0), (24, ndRow l), (25, iv (r)), (26, SV.el l.length 8 (rowG ndCell default l) (Int.toNat r) 0), (27, SV.el l.length 8 (rowG ndCell default l) (Int.toNat r) 1), (28, iv ((l.getD (Int.toNat r) default).uses)), (29, SV.agg 2 (hdCell ⟨r, (l.getD (Int.toNat r) default).uses⟩)), (30, SV.renm (rn [(0, 2)]) (sv2 (SV.own 0) (iv (orderSt l ⟨r, (l.getD (Int.toNat r) default).uses⟩).2))), (20, SV.renm (rn [(0, 2)]) (sv2 (SV.own 0) (iv (orderSt l ⟨r, (l.getD (Int.toNat r) default).uses⟩).2))), (31, SV.own 2), (32, iv ((orderSt l ⟨r, (l.getD (Int.toNat r) default).uses⟩).2)), (6, SV.own 2), (7, iv ((orderSt l ⟨r, (l.getD (Int.toNat r) default).uses⟩).2)), (1, iv (r)), (2, SV.bp 1 0), (5, iv ((l.getD (Int.toNat r) default).host))], [(1, Own.box 1 (stG l) 24), (2, ownOf inCell 1 0 ((orderSt l ⟨r, (l.getD (Int.toNat r) default).uses⟩).1) 3)]⟩ (by kernel_rfl) (by kernel_rfl) ?_ ⟨?_, ?_, ?_, ?_, ?_, ?_, ?_, ?_, ?_, ?_, ?_, ?_, ?_, ?_, ?_, Z⟩ ?_ ?_
 ·show Weak _ _ ⟨[(21, SV.junk), (22, SV.junk), (23, SV.junk), (24, SV.junk), (25, SV.junk), (26, SV.junk), (27, SV.junk), (28, SV.junk), (29, SV.junk), (30, SV.junk), (20, SV.junk), (31, SV.junk), (32, SV.junk), (6, SV.junk), (7, SV.junk), (1, iv (r)), (2, SV.bp 1 0), (5, iv ((l.getD (Int.toNat r) default).host))], [(1, Own.box 1 (stG l) 24)]⟩
  refine We ?_ ?_
  ·exact ⟨Vj, Vj, Vj, Vj, Vj, Vj, Vj, Vj, Vj, Vj, Vj, Vj, Vj, Vj, Vj, V rfl, V rfl, V rfl, Z⟩
  ·exact ⟨⟨_, rfl, ⟨rfl, rfl, (An rfl)⟩⟩, Z⟩
 ·intro e hdn he hdp
  obtain ⟨h9, -⟩ := dns1 hdn he [9] (by kernel_rfl)
  simp only [setE, he, h9, cj_t, cj_f, cjn_t, cjn_f, cb_t, cb_f]
  refine U (LBA (V rfl) rfl Ga24 Sz24 (by decide)) <| Nt <| We ?_ ?_
  ·exact ⟨V rfl, V rfl, V rfl, V rfl, V rfl, V rfl, V rfl, V rfl, V rfl, Vj, V rfl, V rfl, V rfl, V rfl, V rfl, V rfl, V rfl, V rfl, Z⟩
  ·exact ⟨⟨_, rfl, ⟨rfl, rfl, (An rfl)⟩⟩, Z⟩
 ·intro e hdn he hdp
  obtain ⟨-, h9, -⟩ := dns1 hdn he [8, 9] (by kernel_rfl)
  simp only [setE, he, h9, cj_t, cj_f, cjn_t, cjn_f, cb_t, cb_f]
  refine U (Mv (V rfl)) <| Nt <| We ?_ ?_
  ·exact ⟨V rfl, V rfl, V rfl, V rfl, V rfl, V rfl, V rfl, V rfl, V rfl, Vj, V rfl, V rfl, V rfl, V rfl, V rfl, V rfl, V rfl, V rfl, Z⟩
  ·exact ⟨⟨_, rfl, ⟨rfl, rfl, (An rfl)⟩⟩, Z⟩
 ·intro e hdn he hdp
  obtain ⟨-, -, -, -, -, h9, -⟩ := dns1 hdn he [3, 5, 6, 7, 8, 9] (by kernel_rfl)
  simp only [setE, he, h9, cj_t, cj_f, cjn_t, cjn_f, cb_t, cb_f]
  refine U (FlB _ _ (V rfl) Un24 rfl 0 Sz22) <| Nt <| We ?_ ?_
  ·exact ⟨V rfl, V rfl, V rfl, V rfl, V rfl, V rfl, V rfl, V rfl, V rfl, Vj, V rfl, V rfl, V rfl, V rfl, V rfl, V rfl, V rfl, V rfl, Z⟩
  ·exact ⟨⟨_, rfl, ⟨rfl, rfl, (An rfl)⟩⟩, Z⟩
 ·intro e hdn he hdp
  obtain ⟨h2, -⟩ := ups hdn [2] hdp (by kernel_rfl)
  obtain ⟨-, -, -, -, h9, -⟩ := dns1 hdn he [5, 6, 7, 8, 9] (by kernel_rfl)
  simp only [setE, h2, he, h9, cj_t, cj_f, cjn_t, cjn_f, cb_t, cb_f]
  refine U (LdB (V rfl) rfl Ga22 (by decide)) <| Nt <| We ?_ ?_
  ·exact ⟨V rfl, V rfl, V rfl, V rfl, V rfl, V rfl, V rfl, V rfl, V rfl, Vj, V rfl, V rfl, V rfl, V rfl, V rfl, V rfl, V rfl, V rfl, Z⟩
  ·exact ⟨⟨_, rfl, ⟨rfl, rfl, (An rfl)⟩⟩, Z⟩
 ·intro e hdn he hdp
  obtain ⟨-, -, -, -, h9, -⟩ := dns1 hdn he [5, 6, 7, 8, 9] (by kernel_rfl)
  simp only [setE, he, h9, cj_t, cj_f, cjn_t, cjn_f, cb_t, cb_f]
  refine U (Mv (V rfl)) <| Nt <| We ?_ ?_
  ·exact ⟨V rfl, V rfl, V rfl, V rfl, V rfl, V rfl, V rfl, V rfl, V rfl, Vj, V rfl, V rfl, V rfl, V rfl, V rfl, V rfl, V rfl, V rfl, Z⟩
  ·exact ⟨⟨_, rfl, ⟨rfl, rfl, (An rfl)⟩⟩, Z⟩
 ·intro e hdn he hdp
  obtain ⟨h4, h3, h2, -⟩ := ups hdn [4, 3, 2] hdp (by kernel_rfl)
  obtain ⟨-, -, -, h9, -⟩ := dns1 hdn he [6, 7, 8, 9] (by kernel_rfl)
  simp only [setE, h2, h3, h4, he, h9, cj_t, cj_f, cjn_t, cjn_f, cb_t, cb_f]
  refine U (Ix (V rfl) (V rfl) ts22 te22 (by omega) (by omega)) <| Nt <| We ?_ ?_
  ·exact ⟨V rfl, V rfl, V rfl, V rfl, V rfl, V rfl, V rfl, V rfl, V rfl, Vj, V rfl, V rfl, V rfl, V rfl, V rfl, V rfl, V rfl, V rfl, Z⟩
  ·exact ⟨⟨_, rfl, ⟨rfl, rfl, (An rfl)⟩⟩, Z⟩
 ·intro e hdn he hdp
  obtain ⟨h5, h4, h3, h2, -⟩ := ups hdn [5, 4, 3, 2] hdp (by kernel_rfl)
  obtain ⟨-, -, h9, -⟩ := dns1 hdn he [7, 8, 9] (by kernel_rfl)
  simp only [setE, h2, h3, h4, h5, he, h9, cj_t, cj_f, cjn_t, cjn_f, cb_t, cb_f]
  refine U (Fl _ _ (V rfl) Un61 rfl 0 Sz3) <| Nt <| We ?_ ?_
  ·exact ⟨V rfl, V rfl, V rfl, V rfl, V rfl, V rfl, V rfl, V rfl, V rfl, Vj, V rfl, V rfl, V rfl, V rfl, V rfl, V rfl, V rfl, V rfl, Z⟩
  ·exact ⟨⟨_, rfl, ⟨rfl, rfl, (An rfl)⟩⟩, Z⟩
 ·intro e hdn he hdp
  obtain ⟨h6, h5, h4, h3, h2, -⟩ := ups hdn [6, 5, 4, 3, 2] hdp (by kernel_rfl)
  obtain ⟨-, h9, -⟩ := dns1 hdn he [8, 9] (by kernel_rfl)
  simp only [setE, h2, h3, h4, h5, h6, he, h9, cj_t, cj_f, cjn_t, cjn_f, cb_t, cb_f]
  refine U (Ld (V rfl) Ga3 (by decide)) <| Nt <| We ?_ ?_
  ·exact ⟨V rfl, V rfl, V rfl, V rfl, V rfl, V rfl, V rfl, V rfl, V rfl, Vj, V rfl, V rfl, V rfl, V rfl, V rfl, V rfl, V rfl, V rfl, Z⟩
  ·exact ⟨⟨_, rfl, ⟨rfl, rfl, (An rfl)⟩⟩, Z⟩
 ·intro e hdn he hdp
  obtain ⟨h7, h6, h5, h4, h3, h2, h1, -⟩ := ups hdn [7, 6, 5, 4, 3, 2, 1] hdp (by kernel_rfl)
  obtain ⟨h9, -⟩ := dns1 hdn he [9] (by kernel_rfl)
  simp only [setE, h1, h2, h3, h4, h5, h6, h7, he, h9, cj_t, cj_f, cjn_t, cjn_f, cb_t, cb_f]
  refine U (Bu [(0, iv (r)), (1, iv ((l.getD (Int.toNat r) default).uses))] id (hdCell ⟨r, (l.getD (Int.toNat r) default).uses⟩) zero26 build26 (by exact ⟨⟨rfl, (V rfl), rfl⟩, ⟨rfl, (V rfl), rfl⟩, Z⟩) (by decide) ⟨⟨Z, rfl⟩, rfl⟩) <| Nt <| We ?_ ?_
  ·exact ⟨V rfl, V rfl, V rfl, V rfl, V rfl, V rfl, V rfl, V rfl, V rfl, Vj, V rfl, V rfl, V rfl, V rfl, V rfl, V rfl, V rfl, V rfl, Z⟩
  ·exact ⟨⟨_, rfl, ⟨rfl, rfl, (An rfl)⟩⟩, Z⟩
 ·intro e hdn he hdp
  obtain ⟨h8, h7, h6, h5, h4, h3, h2, h1, h0, -⟩ := ups hdn [8, 7, 6, 5, 4, 3, 2, 1, 0] hdp (by kernel_rfl)
  obtain ⟨h10, h11, -, h13, -⟩ := dns1 hdn he [10, 11, 12, 13] (by kernel_rfl)
  simp only [setE, h0, h1, h2, h3, h4, h5, h6, h7, h8, he, h10, h11, h13, cj_t, cj_f, cjn_t, cjn_f, cb_t, cb_f]
  refine CM (cargs := [SV.agg 1 (stG l), SV.agg 2 (hdCell ⟨r, (l.getD (Int.toNat r) default).uses⟩)]) [] [(0, 2)] en58 (mv0 (by exact ⟨⟨(Vi (g' := stG l) (V rfl) ⟨Z, Ir⟩), rfl⟩, ⟨(V rfl), rfl⟩, Z⟩)) (order_ct l ⟨r, (l.getD (Int.toNat r) default).uses⟩ (by first | assumption | exact kb_nil | exact kb_of (by assumption) | exact kb_of fam_c5)) (by exact Z) rfl (freshN_cons (fresh_mk ⟨rfl, rfl, rfl, rfl, rfl, rfl, rfl, rfl, rfl, rfl, rfl, rfl, (noId_cj rfl), rfl, (noId_cj rfl), rfl, rfl, rfl, Z⟩ rfl rfl) rfl rfl) rfl rfl <| Nt <| We ?_ ?_
  ·exact ⟨V rfl, V rfl, V rfl, V rfl, V rfl, V rfl, V rfl, V rfl, V rfl, V rfl, Vj, Vj, V rfl, Vj, V rfl, V rfl, V rfl, V rfl, Z⟩
  ·exact ⟨⟨_, rfl, ⟨rfl, rfl, (An rfl)⟩⟩, ⟨_, rfl, rfl⟩, Z⟩
 ·intro e hdn he hdp
  obtain ⟨h9, h8, h7, h6, h5, h4, h3, h2, h1, h0, -⟩ := ups hdn [9, 8, 7, 6, 5, 4, 3, 2, 1, 0] hdp (by kernel_rfl)
  simp only [setE, h0, h1, h2, h3, h4, h5, h6, h7, h8, h9, he, cj_t, cj_f, cjn_t, cjn_f, cb_t, cb_f]
  refine U (Mv (V rfl)) <| Nt <| We ?_ ?_
  ·exact (Vs rfl)
  ·exact ⟨⟨_, rfl, ⟨rfl, rfl, (An rfl)⟩⟩, ⟨_, rfl, rfl⟩, Z⟩
 ·intro e hdn he hdp
  obtain ⟨h10, h9, h8, h7, h6, h5, h4, h3, h2, h1, h0, -⟩ := ups hdn [10, 9, 8, 7, 6, 5, 4, 3, 2, 1, 0] hdp (by kernel_rfl)
  simp only [setE, h0, h1, h2, h3, h4, h5, h6, h7, h8, h9, h10, he, cj_t, cj_f, cjn_t, cjn_f, cb_t, cb_f]
  refine U (Xt (V rfl) (by decide)) <| Nt <| We ?_ ?_
  ·exact (Vs rfl)
  ·exact ⟨⟨_, rfl, ⟨rfl, rfl, (An rfl)⟩⟩, ⟨_, rfl, rfl⟩, Z⟩
 ·intro e hdn he hdp
  obtain ⟨h10, h9, h8, h7, h6, h5, h4, h3, h2, h1, h0, -⟩ := ups hdn [10, 9, 8, 7, 6, 5, 4, 3, 2, 1, 0] hdp (by kernel_rfl)
  simp only [setE, h0, h1, h2, h3, h4, h5, h6, h7, h8, h9, h10, he, cj_t, cj_f, cjn_t, cjn_f, cb_t, cb_f]
  refine U (Xt (V rfl) (by decide)) <| Nt <| We ?_ ?_
  ·exact (Vs rfl)
  ·exact ⟨⟨_, rfl, ⟨rfl, rfl, (An rfl)⟩⟩, ⟨_, rfl, rfl⟩, Z⟩
 ·intro e hdn he hdp
  obtain ⟨h11, h10, h9, h8, h7, h6, h5, h4, h3, h2, h1, h0, -⟩ := ups hdn [11, 10, 9, 8, 7, 6, 5, 4, 3, 2, 1, 0] hdp (by kernel_rfl)
  simp only [setE, h0, h1, h2, h3, h4, h5, h6, h7, h8, h9, h10, h11, he, cj_t, cj_f, cjn_t, cjn_f, cb_t, cb_f]
  refine U (As (V rfl)) <| Nt <| We ?_ ?_
  ·exact (Vs rfl)
  ·exact ⟨⟨_, rfl, ⟨rfl, rfl, (An rfl)⟩⟩, ⟨_, rfl, rfl⟩, Z⟩
 ·intro e hdn he hdp
  obtain ⟨h13, h12, h11, h10, h9, h8, h7, h6, h5, h4, h3, h2, h1, h0, -⟩ := ups hdn [13, 12, 11, 10, 9, 8, 7, 6, 5, 4, 3, 2, 1, 0] hdp (by kernel_rfl)
  simp only [setE, h0, h1, h2, h3, h4, h5, h6, h7, h8, h9, h10, h11, h12, h13, he, cj_t, cj_f, cjn_t, cjn_f, cb_t, cb_f]
  refine U (As (V rfl)) <| Nt <| We ?_ ?_
  ·exact (Vs rfl)
  ·exact ⟨⟨_, rfl, ⟨rfl, rfl, (An rfl)⟩⟩, ⟨_, rfl, rfl⟩, Z⟩
 ·intro e he
  have h0 := he 0 (by decide)
  have h1 := he 1 (by decide)
  have h2 := he 2 (by decide)
  have h3 := he 3 (by decide)
  have h4 := he 4 (by decide)
  have h5 := he 5 (by decide)
  have h6 := he 6 (by decide)
  have h7 := he 7 (by decide)
  have h8 := he 8 (by decide)
  have h9 := he 9 (by decide)
  have h10 := he 10 (by decide)
  have h11 := he 11 (by decide)
  have h12 := he 12 (by decide)
  have h13 := he 13 (by decide)
  have h14 := he 14 (by decide)
  show Weak _ ⟨[(21, cj (e 0) (SV.agg 1 (fun zi => (stG l) (0 + zi)))), (22, cj (e 1) (iv (r))), (23, cj (e 2) (SV.bp 1 0)), (24, cj (e 3) (ndRow l)), (25, cj (e 4) (iv (r))), (26, cj (e 5) (SV.el l.length 8 (rowG ndCell default l) (Int.toNat r) 0)), (27, cj (e 6) (SV.el l.length 8 (rowG ndCell default l) (Int.toNat r) 1)), (28, cj (e 7) (iv ((l.getD (Int.toNat r) default).uses))), (29, cj (e 8) (SV.agg 2 (hdCell ⟨r, (l.getD (Int.toNat r) default).uses⟩))), (30, cj (e 9) (SV.renm (rn [(0, 2)]) (sv2 (SV.own 0) (iv (orderSt l ⟨r, (l.getD (Int.toNat r) default).uses⟩).2)))), (20, cj (e 10) (SV.renm (rn [(0, 2)]) (sv2 (SV.own 0) (iv (orderSt l ⟨r, (l.getD (Int.toNat r) default).uses⟩).2)))), (31, cj (e 11) (SV.own 2)), (32, cj (e 12) (iv ((orderSt l ⟨r, (l.getD (Int.toNat r) default).uses⟩).2))), (6, cj (e 13) (SV.own 2)), (7, cj (e 14) (iv ((orderSt l ⟨r, (l.getD (Int.toNat r) default).uses⟩).2))), (1, iv (r)), (2, SV.bp 1 0), (5, iv ((l.getD (Int.toNat r) default).host))], (cb (e 9) [(1, Own.box 1 (stG l) 24), (2, ownOf inCell 1 0 ((orderSt l ⟨r, (l.getD (Int.toNat r) default).uses⟩).1) 3)] [(1, Own.box 1 (stG l) 24)])⟩ _
  simp only [h0, h1, h2, h3, h4, h5, h6, h7, h8, h9, h10, h11, h12, h13, h14]
  show Weak _ ⟨[(21, SV.agg 1 (fun zi => (stG l) (0 + zi))), (22, iv (r)), (23, SV.bp 1 0), (24, ndRow l), (25, iv (r)), (26, SV.el l.length 8 (rowG ndCell default l) (Int.toNat r) 0), (27, SV.el l.length 8 (rowG ndCell default l) (Int.toNat r) 1), (28, iv ((l.getD (Int.toNat r) default).uses)), (29, SV.agg 2 (hdCell ⟨r, (l.getD (Int.toNat r) default).uses⟩)), (30, SV.renm (rn [(0, 2)]) (sv2 (SV.own 0) (iv (orderSt l ⟨r, (l.getD (Int.toNat r) default).uses⟩).2))), (20, SV.renm (rn [(0, 2)]) (sv2 (SV.own 0) (iv (orderSt l ⟨r, (l.getD (Int.toNat r) default).uses⟩).2))), (31, SV.own 2), (32, iv ((orderSt l ⟨r, (l.getD (Int.toNat r) default).uses⟩).2)), (6, SV.own 2), (7, iv ((orderSt l ⟨r, (l.getD (Int.toNat r) default).uses⟩).2)), (1, iv (r)), (2, SV.bp 1 0), (5, iv ((l.getD (Int.toNat r) default).host))], [(1, Own.box 1 (stG l) 24), (2, ownOf inCell 1 0 ((orderSt l ⟨r, (l.getD (Int.toNat r) default).uses⟩).1) 3)]⟩ _
  refine We ?_ ?_
  ·exact ⟨Va (V rfl) (An rfl), V rfl, V rfl, V rfl, V rfl, V rfl, V rfl, V rfl, Va (V rfl) (An rfl), V rfl, V rfl, V rfl, V rfl, V rfl, V rfl, V rfl, V rfl, V rfl, Z⟩
  ·exact ⟨⟨_, rfl, ⟨rfl, rfl, (An rfl)⟩⟩, ⟨_, rfl, rfl⟩, Z⟩
 refine Sq <| c_ownE 2 ((ordSt l r)) rfl (by exact congrArg Prod.fst (ord_self hc hr hra.1)) <| Rt <| t_nilO 3 3 (rowG slCell default []) 41 (.inl rfl) rfl <| Nt <| Sq <| Sq <| FzC 2 rfl <| Rq <| O (Mv (V rfl)) <| O (Ln (V rfl) ts33) <| O (Mv K) <| Nq <| Bo <| c_mv 3 60 rfl rfl <| c_ownE 60 (slotsL l (l.getD (Int.toNat r) default).host ((ordSt l r).take 0)) rfl (by rfl) <| Lo (fun (i : Nat) => ⟨[(2, SV.bp 1 0), (5, iv ((l.getD (Int.toNat r) default).host)), (8, SV.own 60), (33, inRow ((ordSt l r))), (34, iv ((((ordSt l r)).length : Int))), (35, iv ((i : Int)))], [(1, Own.box 1 (fun zt => SV.renm (mvN 3 60) ((stG l) zt)) 24), (60, ownOf slCell 3 default (slotsL l (l.getD (Int.toNat r) default).host ((ordSt l r).take i)) 41)]⟩) (fun (i : Nat) => i ≤ (ordSt l r).length) (fun (i : Nat) => (ordSt l r).length - i) 0 (by show 0 ≤ (ordSt l r).length; exact Nat.zero_le _) (We (ow := [(1, Own.box 1 (fun zt => SV.renm (mvN 3 60) ((stG l) zt)) 24), (60, ownOf slCell 3 default (slotsL l (l.getD (Int.toNat r) default).host ((ordSt l r).take 0)) 41)]) (Vs rfl) (by exact ⟨⟨_, rfl, rfl, rfl, (An rfl)⟩, ⟨_, rfl, rfl⟩, Z⟩)) <| ?_
 ·rintro i hI1
  have hJ1 : i ≤ (ordSt l r).length := hI1
  have hil := hJ1
  have hsl := slotsL_len (l := l) (H := (l.getD (Int.toNat r) default).host) ((ordSt l r).take i)
  rw [List.length_take] at hsl
  refine Sq <| Rq <| O (Lt (V rfl) (V rfl)) <| Nq <| Sq <| Cd (V rfl) (fun hc1 => ?_) (fun hc1 => ?_)
  ·have hc1s := hc1; try simp only [BL] at hc1s
   have hki := ordm_in hc hr (i := i) (by omega)
   have hnt := st_n1 hc hki
   have htg := hnt.tag
   refine Sk <| Sq <| Bo <| Sq <| Rq <| O (IxN (i := i) (V rfl) (V rfl) ts33 te33 (by omega)) <| O (Ld (V rfl) Ga3 (by decide)) <| O (As (V rfl)) <| Nq <| Sq <| Sq <| Rq <| O (FlB _ _ (V rfl) Un24 rfl 0 Sz22) <| O (LdB (V rfl) rfl Ga22 (by decide)) <| O (Mv (V rfl)) <| O (Ix (V rfl) (V rfl) ts22 te22 (by omega) (by omega)) <| O (Fl _ _ (V rfl) Un61 rfl 0 Sz3) <| O (Ld (V rfl) Ga3 (by decide)) <| O (Lt (V rfl) K) <| Nq <| Cd (V rfl) (fun hc2 => ?_) (fun hc2 => ?_)
   ·have hc2s := hc2; try simp only [BL] at hc2s
    refine Ex <| Rq <| O (Ad (V rfl) K (by omega)) <| O (Mv (V rfl)) <| Nq <| k_ownE 60 (slotsL l (l.getD (Int.toNat r) default).host ((ordSt l r).take ((i + 1)))) rfl (by rw [slotsL_s (by omega), slStep_no hc2s]) <| Nx (i + 1) (by show (i + 1) ≤ (ordSt l r).length; first | omega | (simp; done) | (refine ⟨?_, ?_⟩ <;> first | omega | (simp; done))) (by show (ordSt l r).length - (i + 1) < (ordSt l r).length - i; omega) (We (ow := [(1, Own.box 1 (fun zt => SV.renm (mvN 3 60) ((stG l) zt)) 24), (60, ownOf slCell 3 default (slotsL l (l.getD (Int.toNat r) default).host ((ordSt l r).take ((i + 1)))) 41)]) (Vs rfl) (by exact ⟨⟨_, rfl, rfl, rfl, (An rfl)⟩, ⟨_, rfl, rfl⟩, Z⟩))
   ·have hc2s := hc2; try simp only [BL] at hc2s
    refine Sk <| Sq <| Rt <| U (Mv (V rfl)) <| U (FlB _ _ (V rfl) Un24 rfl 0 Sz22) <| U (LdB (V rfl) rfl Ga22 (by decide)) <| U (Mv (V rfl)) <| U (Ix (V rfl) (V rfl) ts22 te22 (by omega) (by omega)) <| U (Fl _ _ (V rfl) Un61 rfl 0 Sz3) <| U (Ld (V rfl) Ga3 (by decide)) <| U (Sb (V rfl) K (by omega)) <| U (Bu [(0, iv ((((ordSt l r)).getD i 0))), (1, iv (((l.getD (Int.toNat ((((ordSt l r)).getD i 0))) default).tag) - 90))] id (cmpG [iv ((((ordSt l r)).getD i 0)), iv (((l.getD (Int.toNat ((((ordSt l r)).getD i 0))) default).tag) - 90), SV.v (Value.slice none 0 0)]) zero41 build41 (by exact ⟨⟨rfl, (V rfl), rfl⟩, ⟨rfl, (V rfl), rfl⟩, Z⟩) (by decide) ⟨⟨⟨Z, rfl⟩, rfl⟩, rfl⟩) <| Al 4 zero41 rfl rfl <| StA (V rfl) rfl (V rfl) Sz41 <| Nt <| Sq <| Sq <| Rt <| U (Mv (V rfl)) <| U (Mk (caps := [SV.bp 4 0]) ⟨(V rfl), Z⟩) <| CTb en142 (by exact ⟨(vb_own (V rfl) rfl), (vb_fnB (j := 4) [iv ((((ordSt l r)).getD i 0)), iv (((l.getD (Int.toNat ((((ordSt l r)).getD i 0))) default).tag) - 90), SV.v (Value.slice none 0 0)] [elB [iv ((((ordSt l r)).getD i 0)), iv (((l.getD (Int.toNat ((((ordSt l r)).getD i 0))) default).tag) - 90), SV.v (Value.slice none 0 0)] 0] (VF [SV.bp 4 0] ((V rfl)) (An rfl)) rfl rfl ⟨⟨⟨Z, rfl⟩, rfl⟩, rfl⟩ rfl rfl ⟨Z, rfl⟩ rfl), Z⟩) (conf142_ct (fun y : Sl => decide (y.num = ((l.getD (Int.toNat ((ordSt l r).getD i 0)) default).tag - 90))) en143 rfl (fun y => sameNum_ct y ((ordSt l r).getD i 0) ((l.getD (Int.toNat ((ordSt l r).getD i 0)) default).tag - 90)) (slotsL l (l.getD (Int.toNat r) default).host ((ordSt l r).take i))) <| U (Qo (V rfl)) <| Nt <| Cd (V rfl) (fun hc3 => ?_) (fun hc3 => ?_)
    ·have hc3s := hc3; try simp only [BL] at hc3s
     refine Sq <| Rq <| O (FlB _ _ (V rfl) Un24 rfl 0 Sz22) <| O (LdB (V rfl) rfl Ga22 (by decide)) <| O (Mv (V rfl)) <| O (Ix (V rfl) (V rfl) ts22 te22 (by omega) (by omega)) <| O (Fl _ _ (V rfl) Un61 rfl 0 Sz33) <| O (Ld (V rfl) Ga33 (by decide)) <| O (Ln (V rfl) ts33) <| O (Mv K) <| Nq <| Bo <| Tc (turn_nilB 4 2 61 1 (rowG inCell 0 []) 3 rfl rfl rfl) <| c_ownE 61 (((l.getD (Int.toNat (l.getD (Int.toNat r) default).host) default).kids.take 0).filter (markF l ((l.getD (Int.toNat ((ordSt l r).getD i 0)) default).tag - 90))) rfl (by rfl) <| Lo (fun (j : Nat) => ⟨[(2, SV.bp 1 0), (5, iv ((l.getD (Int.toNat r) default).host)), (8, SV.own 60), (11, SV.bp 4 0), (33, inRow ((ordSt l r))), (34, iv ((((ordSt l r)).length : Int))), (35, iv ((i : Int))), (64, inRow ((l.getD (Int.toNat ((l.getD (Int.toNat r) default).host)) default).kids)), (65, iv ((((l.getD (Int.toNat ((l.getD (Int.toNat r) default).host)) default).kids).length : Int))), (66, iv ((j : Int)))], [(1, Own.box 1 (fun zt => SV.renm (mvN 3 60) ((stG l) zt)) 24), (4, Own.box 3 (cmpG [iv (((ordSt l r).getD i 0)), iv (((l.getD (Int.toNat ((ordSt l r).getD i 0)) default).tag - 90)), SV.own 61]) 41), (60, ownOf slCell 3 default (slotsL l (l.getD (Int.toNat r) default).host ((ordSt l r).take i)) 41), (61, ownOf inCell 1 0 (((l.getD (Int.toNat (l.getD (Int.toNat r) default).host) default).kids.take j).filter (markF l ((l.getD (Int.toNat ((ordSt l r).getD i 0)) default).tag - 90))) 3)]⟩) (fun (j : Nat) => j ≤ (l.getD (Int.toNat (l.getD (Int.toNat r) default).host) default).kids.length) (fun (j : Nat) => (l.getD (Int.toNat (l.getD (Int.toNat r) default).host) default).kids.length - j) 0 (by show 0 ≤ (l.getD (Int.toNat (l.getD (Int.toNat r) default).host) default).kids.length; exact Nat.zero_le _) (We (ow := [(1, Own.box 1 (fun zt => SV.renm (mvN 3 60) ((stG l) zt)) 24), (4, Own.box 3 (cmpG [iv (((ordSt l r).getD i 0)), iv (((l.getD (Int.toNat ((ordSt l r).getD i 0)) default).tag - 90)), SV.own 61]) 41), (60, ownOf slCell 3 default (slotsL l (l.getD (Int.toNat r) default).host ((ordSt l r).take i)) 41), (61, ownOf inCell 1 0 (((l.getD (Int.toNat (l.getD (Int.toNat r) default).host) default).kids.take 0).filter (markF l ((l.getD (Int.toNat ((ordSt l r).getD i 0)) default).tag - 90))) 3)]) (Vs rfl) (by exact ⟨⟨_, rfl, rfl, rfl, (An rfl)⟩, ⟨_, rfl, rfl, rfl, (An rfl)⟩, ⟨_, rfl, rfl⟩, ⟨_, rfl, rfl⟩, Z⟩)) <| ?_
     ·rintro j hI2
      have hJ2 : j ≤ (l.getD (Int.toNat (l.getD (Int.toNat r) default).host) default).kids.length := hI2
      have hjl := hJ2
      have hfl := List.length_filter_le (markF l ((l.getD (Int.toNat ((ordSt l r).getD i 0)) default).tag - 90)) ((l.getD (Int.toNat (l.getD (Int.toNat r) default).host) default).kids.take j)
      rw [List.length_take] at hfl
      refine Sq <| Rq <| O (Lt (V rfl) (V rfl)) <| Nq <| Sq <| Cd (V rfl) (fun hc4 => ?_) (fun hc4 => ?_)
      ·have hc4s := hc4; try simp only [BL] at hc4s
       have hkj := kidm_in hc (k := (l.getD (Int.toNat r) default).host) (by omega) (j := j) (by omega)
       refine Sk <| Sq <| Bo <| Sq <| Rq <| O (IxN (i := j) (V rfl) (V rfl) ts33 te33 (by omega)) <| O (Ld (V rfl) Ga3 (by decide)) <| O (As (V rfl)) <| Nq <| Sq <| Rqd (by kernel_rfl) (by kernel_rfl) <| O (FlB _ _ (V rfl) Un24 rfl 0 Sz22) <| O (LdB (V rfl) rfl Ga22 (by decide)) <| O (Mv (V rfl)) <| O (Ix (V rfl) (V rfl) ts22 te22 (by omega) (by omega)) <| O (Fl _ _ (V rfl) Un61 rfl 0 Sz3) <| O (Ld (V rfl) Ga3 (by decide)) <| O (FlB _ _ (V rfl) Un41 rfl 0 Sz3) <| O (LdB (V rfl) rfl Ga3 (by decide)) <| O (Ql (V rfl) (V rfl)) <| Nq <| Cd (V rfl) (fun hc5 => ?_) (fun hc5 => ?_)
       ·have hc5s := hc5; try simp only [BL] at hc5s
        refine Rt <| U (FlB _ _ (V rfl) Un41 rfl 0 Sz33) <| U (LdB (V rfl) rfl Ga33 (by decide)) <| U (Mv (V rfl)) <| Uw (w_bs (n := 1) (zget := fun _ => iv 0) [(fun _ => iv ((((l.getD (Int.toNat ((l.getD (Int.toNat r) default).host)) default).kids).getD j 0)))] (rowG inCell 0 [(((l.getD (Int.toNat ((l.getD (Int.toNat r) default).host)) default).kids).getD j 0)]) Un33 Sz3 zero3 (by decide) rfl (by decide) ⟨⟨rfl, .inr ⟨rfl, (V rfl), rfl⟩, rfl⟩, Z⟩ ⟨Z, ⟨Z, rfl⟩⟩) <| Ap 5 (rowG inCell 0 ((((l.getD (Int.toNat (l.getD (Int.toNat r) default).host) default).kids.take j).filter (markF l ((l.getD (Int.toNat ((ordSt l r).getD i 0)) default).tag - 90))) ++ ([(((l.getD (Int.toNat ((l.getD (Int.toNat r) default).host)) default).kids).getD j 0)]))) eo33 (V rfl) rfl (V rfl) rfl (len_app (((l.getD (Int.toNat (l.getD (Int.toNat r) default).host) default).kids.take j).filter (markF l ((l.getD (Int.toNat ((ordSt l r).getD i 0)) default).tag - 90))) ([(((l.getD (Int.toNat ((l.getD (Int.toNat r) default).host)) default).kids).getD j 0)])) (by first | (simp only [maxLen, List.length_append, List.length_set, List.length_nil, List.length_cons]; first | omega | (simp only [List.length_append, List.length_cons, List.length_nil]; omega)) | (simp only [maxLen]; first | omega | (simp only [List.length_append, List.length_cons, List.length_nil]; omega))) (by first | (simp only [List.length_append, List.length_set, List.length_nil, List.length_cons]; first | omega | (simp only [List.length_append, List.length_cons, List.length_nil]; omega)) | (first | omega | (simp only [List.length_append, List.length_cons, List.length_nil]; omega))) (app_typed (l := (((l.getD (Int.toNat (l.getD (Int.toNat r) default).host) default).kids.take j).filter (markF l ((l.getD (Int.toNat ((ordSt l r).getD i 0)) default).tag - 90)))) (m := ([(((l.getD (Int.toNat ((l.getD (Int.toNat r) default).host)) default).kids).getD j 0)]))) <| U (FlB _ _ (V rfl) Un41 rfl 0 Sz33) <| t_st1V (V rfl) rfl (V rfl) (one_own rfl) Sz33 (by decide) <| Nt <| Rq <| O (Ad (V rfl) K (by omega)) <| O (Mv (V rfl)) <| Nq <| k_mv 5 61 rfl rfl <| k_ownE 61 (((l.getD (Int.toNat (l.getD (Int.toNat r) default).host) default).kids.take ((j + 1))).filter (markF l ((l.getD (Int.toNat ((ordSt l r).getD i 0)) default).tag - 90))) rfl (by exact filt_1 (p := markF l ((l.getD (Int.toNat ((ordSt l r).getD i 0)) default).tag - 90)) (by omega) hc5) <| Nx (j + 1) (by show (j + 1) ≤ (l.getD (Int.toNat (l.getD (Int.toNat r) default).host) default).kids.length; first | omega | (simp; done) | (refine ⟨?_, ?_⟩ <;> first | omega | (simp; done))) (by show (l.getD (Int.toNat (l.getD (Int.toNat r) default).host) default).kids.length - (j + 1) < (l.getD (Int.toNat (l.getD (Int.toNat r) default).host) default).kids.length - j; omega) (We (ow := [(1, Own.box 1 (fun zt => SV.renm (mvN 3 60) ((stG l) zt)) 24), (4, Own.box 3 (cmpG [iv (((ordSt l r).getD i 0)), iv (((l.getD (Int.toNat ((ordSt l r).getD i 0)) default).tag - 90)), SV.own 61]) 41), (60, ownOf slCell 3 default (slotsL l (l.getD (Int.toNat r) default).host ((ordSt l r).take i)) 41), (61, ownOf inCell 1 0 (((l.getD (Int.toNat (l.getD (Int.toNat r) default).host) default).kids.take ((j + 1))).filter (markF l ((l.getD (Int.toNat ((ordSt l r).getD i 0)) default).tag - 90))) 3)]) (Vs rfl) (by exact ⟨⟨_, rfl, rfl, rfl, (An rfl)⟩, ⟨_, rfl, rfl, rfl, (An rfl)⟩, ⟨_, rfl, rfl⟩, ⟨_, rfl, rfl⟩, Z⟩))
       ·have hc5s := hc5; try simp only [BL] at hc5s
        refine Sk <| Rq <| O (Ad (V rfl) K (by omega)) <| O (Mv (V rfl)) <| Nq <| k_ownE 61 (((l.getD (Int.toNat (l.getD (Int.toNat r) default).host) default).kids.take ((j + 1))).filter (markF l ((l.getD (Int.toNat ((ordSt l r).getD i 0)) default).tag - 90))) rfl (by exact filt_2 (p := markF l ((l.getD (Int.toNat ((ordSt l r).getD i 0)) default).tag - 90)) (by omega) hc5) <| Nx (j + 1) (by show (j + 1) ≤ (l.getD (Int.toNat (l.getD (Int.toNat r) default).host) default).kids.length; first | omega | (simp; done) | (refine ⟨?_, ?_⟩ <;> first | omega | (simp; done))) (by show (l.getD (Int.toNat (l.getD (Int.toNat r) default).host) default).kids.length - (j + 1) < (l.getD (Int.toNat (l.getD (Int.toNat r) default).host) default).kids.length - j; omega) (We (ow := [(1, Own.box 1 (fun zt => SV.renm (mvN 3 60) ((stG l) zt)) 24), (4, Own.box 3 (cmpG [iv (((ordSt l r).getD i 0)), iv (((l.getD (Int.toNat ((ordSt l r).getD i 0)) default).tag - 90)), SV.own 61]) 41), (60, ownOf slCell 3 default (slotsL l (l.getD (Int.toNat r) default).host ((ordSt l r).take i)) 41), (61, ownOf inCell 1 0 (((l.getD (Int.toNat (l.getD (Int.toNat r) default).host) default).kids.take ((j + 1))).filter (markF l ((l.getD (Int.toNat ((ordSt l r).getD i 0)) default).tag - 90))) 3)]) (Vs rfl) (by exact ⟨⟨_, rfl, rfl, rfl, (An rfl)⟩, ⟨_, rfl, rfl, rfl, (An rfl)⟩, ⟨_, rfl, rfl⟩, ⟨_, rfl, rfl⟩, Z⟩))
      ·have hc4s := hc4; try simp only [BL] at hc4s
       refine Ex <| Rt <| U (Mv (V rfl)) <| U (LBA (V rfl) rfl Ga41 Sz41 (by decide)) <| FzT 61 rfl <| Uw (w_bs (n := 1) (zget := cmpG [iv (0), iv (0), SV.v (Value.slice none 0 0)]) [_] (rowG slCell default [⟨((ordSt l r).getD i 0), ((l.getD (Int.toNat ((ordSt l r).getD i 0)) default).tag - 90), ((l.getD (Int.toNat (l.getD (Int.toNat r) default).host) default).kids.take j).filter (markF l ((l.getD (Int.toNat ((ordSt l r).getD i 0)) default).tag - 90))⟩]) Un27 Sz41 zero41 (by decide) rfl (by decide) ⟨⟨rfl, .inl (V rfl), rfl⟩, Z⟩ ⟨Z, ⟨⟨⟨Z, rfl⟩, rfl⟩, rfl⟩⟩) <| Ap 6 (rowG slCell default ((slotsL l (l.getD (Int.toNat r) default).host ((ordSt l r).take i)) ++ ([⟨((ordSt l r).getD i 0), ((l.getD (Int.toNat ((ordSt l r).getD i 0)) default).tag - 90), ((l.getD (Int.toNat (l.getD (Int.toNat r) default).host) default).kids.take j).filter (markF l ((l.getD (Int.toNat ((ordSt l r).getD i 0)) default).tag - 90))⟩]))) eo27 (V rfl) rfl (V rfl) rfl (len_app (slotsL l (l.getD (Int.toNat r) default).host ((ordSt l r).take i)) ([⟨((ordSt l r).getD i 0), ((l.getD (Int.toNat ((ordSt l r).getD i 0)) default).tag - 90), ((l.getD (Int.toNat (l.getD (Int.toNat r) default).host) default).kids.take j).filter (markF l ((l.getD (Int.toNat ((ordSt l r).getD i 0)) default).tag - 90))⟩])) (by first | (simp only [maxLen, List.length_append, List.length_set, List.length_nil, List.length_cons]; first | omega | (simp only [List.length_append, List.length_cons, List.length_nil]; omega)) | (simp only [maxLen]; first | omega | (simp only [List.length_append, List.length_cons, List.length_nil]; omega))) (by first | (simp only [List.length_append, List.length_set, List.length_nil, List.length_cons]; first | omega | (simp only [List.length_append, List.length_cons, List.length_nil]; omega)) | (first | omega | (simp only [List.length_append, List.length_cons, List.length_nil]; omega))) (app_typed (l := (slotsL l (l.getD (Int.toNat r) default).host ((ordSt l r).take i))) (m := ([⟨((ordSt l r).getD i 0), ((l.getD (Int.toNat ((ordSt l r).getD i 0)) default).tag - 90), ((l.getD (Int.toNat (l.getD (Int.toNat r) default).host) default).kids.take j).filter (markF l ((l.getD (Int.toNat ((ordSt l r).getD i 0)) default).tag - 90))⟩]))) <| U (As (V rfl)) <| Nt <| Rq <| O (Ad (V rfl) K (by omega)) <| O (Mv (V rfl)) <| Nq <| k_mv 6 60 rfl rfl <| k_ownE 60 (slotsL l (l.getD (Int.toNat r) default).host ((ordSt l r).take ((i + 1)))) rfl (by rw [slotsL_s (by omega), slStep_new hc2s (by simpa using hc3), filt_e (by omega)]) <| Nx (i + 1) (by show (i + 1) ≤ (ordSt l r).length; first | omega | (simp; done) | (refine ⟨?_, ?_⟩ <;> first | omega | (simp; done))) (by show (ordSt l r).length - (i + 1) < (ordSt l r).length - i; omega) (We (ow := [(1, Own.box 1 (fun zt => SV.renm (mvN 3 60) ((stG l) zt)) 24), (60, ownOf slCell 3 default (slotsL l (l.getD (Int.toNat r) default).host ((ordSt l r).take ((i + 1)))) 41)]) (Vs rfl) (by exact ⟨⟨_, rfl, rfl, rfl, (An rfl)⟩, ⟨_, rfl, rfl⟩, Z⟩))
    ·have hc3s := hc3; try simp only [BL] at hc3s
     refine Sk <| Rt <| U (Mv (V rfl)) <| U (LBA (V rfl) rfl Ga41 Sz41 (by decide)) <| Uw (w_rowI (get' := rowG slCell default [⟨(((ordSt l r)).getD i 0), ((l.getD (Int.toNat ((((ordSt l r)).getD i 0))) default).tag) - 90, []⟩]) (w_bs (n := 1) (zget := cmpG [iv (0), iv (0), SV.v (Value.slice none 0 0)]) [(fun zi => (cmpG [iv ((((ordSt l r)).getD i 0)), iv (((l.getD (Int.toNat ((((ordSt l r)).getD i 0))) default).tag) - 90), SV.v (Value.slice none 0 0)]) (0 + zi))] (fun zi zt => ([(fun zi => (cmpG [iv ((((ordSt l r)).getD i 0)), iv (((l.getD (Int.toNat ((((ordSt l r)).getD i 0))) default).tag) - 90), SV.v (Value.slice none 0 0)]) (0 + zi))].getD zi fun _ => SV.junk) zt) Un27 Sz41 zero41 (by decide) rfl (by decide) ⟨⟨rfl, .inl (V rfl), rfl⟩, Z⟩ ⟨Z, ⟨⟨⟨Z, rfl⟩, rfl⟩, rfl⟩⟩) ⟨Z, ⟨⟨⟨Z, impO_rfl⟩, impO_rfl⟩, impO_nil⟩⟩) <| Ap 7 (rowG slCell default ((slotsL l (l.getD (Int.toNat r) default).host ((ordSt l r).take i)) ++ ([⟨(((ordSt l r)).getD i 0), ((l.getD (Int.toNat ((((ordSt l r)).getD i 0))) default).tag) - 90, []⟩]))) eo27 (V rfl) rfl (V rfl) rfl (len_app (slotsL l (l.getD (Int.toNat r) default).host ((ordSt l r).take i)) ([⟨(((ordSt l r)).getD i 0), ((l.getD (Int.toNat ((((ordSt l r)).getD i 0))) default).tag) - 90, []⟩])) (by first | (simp only [maxLen, List.length_append, List.length_set, List.length_nil, List.length_cons]; first | omega | (simp only [List.length_append, List.length_cons, List.length_nil]; omega)) | (simp only [maxLen]; first | omega | (simp only [List.length_append, List.length_cons, List.length_nil]; omega))) (by first | (simp only [List.length_append, List.length_set, List.length_nil, List.length_cons]; first | omega | (simp only [List.length_append, List.length_cons, List.length_nil]; omega)) | (first | omega | (simp only [List.length_append, List.length_cons, List.length_nil]; omega))) (app_typed (l := (slotsL l (l.getD (Int.toNat r) default).host ((ordSt l r).take i))) (m := ([⟨(((ordSt l r)).getD i 0), ((l.getD (Int.toNat ((((ordSt l r)).getD i 0))) default).tag) - 90, []⟩]))) <| U (As (V rfl)) <| Nt <| Rq <| O (Ad (V rfl) K (by omega)) <| O (Mv (V rfl)) <| Nq <| k_mv 7 60 rfl rfl <| k_ownE 60 (slotsL l (l.getD (Int.toNat r) default).host ((ordSt l r).take ((i + 1)))) rfl (by rw [slotsL_s (by omega), slStep_old hc2s (by simpa using hc3)]) <| Nx (i + 1) (by show (i + 1) ≤ (ordSt l r).length; first | omega | (simp; done) | (refine ⟨?_, ?_⟩ <;> first | omega | (simp; done))) (by show (ordSt l r).length - (i + 1) < (ordSt l r).length - i; omega) (We (ow := [(1, Own.box 1 (fun zt => SV.renm (mvN 3 60) ((stG l) zt)) 24), (60, ownOf slCell 3 default (slotsL l (l.getD (Int.toNat r) default).host ((ordSt l r).take ((i + 1)))) 41)]) (Vs rfl) (by exact ⟨⟨_, rfl, rfl, rfl, (An rfl)⟩, ⟨_, rfl, rfl⟩, Z⟩))
  ·have hc1s := hc1; try simp only [BL] at hc1s
   exact Ex <| Sq <| Rq <| O (Mv (V rfl)) <| O (As (V rfl)) <| Nq <| FzC 60 rfl <| Rx <| R1 rfl (V rfl) rfl (by show slRow (slotsL l (l.getD (Int.toNat r) default).host ((ordSt l r).take i)) = slRow (slotsR l r); rw [slotsR, List.take_of_length_le (by omega)])
end Go.Proofs.Ytmcdamcedemdiaa
namespace Go.Proofs.Ytmcdamcedemdiaa
open Go.RowKit Go.Eng
theorem slotsF_ct (l : List Nd) (h : Hd) (hb : ∀ n ∈ l, n.kids.length ≤ 17592186043904) : Ct Try.prog 21 [SV.agg 1 (stG l), SV.agg 2 (hdCell h)] (sv2 (slRow (slotsSt l h).1) (iv (slotsSt l h).2)) := by
 refine CtO 27 Try.func21 rfl rfl rfl fun E => row_lenA 0 (V (s := 0) rfl) rfl rfl fun hl0_0 => Sq <| Rt <| BxA 1 (V rfl) rfl rfl <| BxA 2 (V rfl) rfl rfl <| U (As (Vn (k := 3) (get := rowG slCell default []))) <| U (As K) <| Nt <| Sq <| Sq <| Rt <| U (LBA (V rfl) rfl Ga24 Sz24 (by decide)) <| U (LBA (V rfl) rfl Ga26 Sz26 (by decide)) <| CT en46 (by exact ⟨⟨(Vi (g' := stG l) (V rfl) ⟨Z, Ir⟩), rfl⟩, ⟨(Vi (g' := hdCell ⟨h.pl, h.use⟩) (V rfl) ⟨⟨Z, Ir⟩, Ir⟩), rfl⟩, Z⟩) (find_ct l h (by first | assumption | exact kb_nil | exact kb_of (by assumption) | exact kb_of fam_c5)) <| U (Mv (V rfl)) <| U (Xt (V rfl) (by decide)) <| U (Xt (V rfl) (by decide)) <| Al 3 zero61 rfl rfl <| StA (V rfl) rfl (V rfl) Sz61 <| U (As (V rfl)) <| Nt <| Sq <| Rq <| O (Mv (V rfl)) <| O (Qn (V rfl) K) <| Nq <| Cd (V rfl) (fun hc1 => ?_) (fun hc1 => ?_)
 ·have hc1s := hc1; try simp only [BL] at hc1s
  exact Sq <| Rq <| O (Mv (V rfl)) <| O (As (Vn (k := 3) (get := rowG slCell default []))) <| O (As (V rfl)) <| Nq <| Rx <| R2 rfl (V rfl) (V rfl) rfl rfl (by show sv2 (slRow ([])) (iv ((findSt l h).2)) = sv2 (slRow (slotsSt l h).1) (iv (slotsSt l h).2); rw [slots_1 (fun z => hc1s ((first_find l h).symm.trans z)), first_find])
 ·have hc1s := hc1; try simp only [BL] at hc1s
  have hf0 : firstSt l [h] = 0 := (first_find l h).trans hc1s
  have hc0 := (first1 hf0).1
  have hpl := (first1 hf0).2.2.1
  have hfo := (find_ok hc1s).2.2
  have h24 := checkSt_len hc0
  refine Sk <| Sq <| Rq <| O (LBA (V rfl) rfl Ga24 Sz24 (by decide)) <| O (FlB _ _ (V rfl) Un26 rfl 0 Sz3) <| O (LdB (V rfl) rfl Ga3 (by decide)) <| CQ en96 (by exact ⟨⟨(Vi (g' := stG l) (V rfl) ⟨Z, Ir⟩), rfl⟩, ⟨(V rfl), rfl⟩, Z⟩) (root_ct l h.pl) <| O (As (V rfl)) <| Nq <| Sq <| Sq <| Rq <| O (Mv (V rfl)) <| O (Lt (V rfl) K) <| Nq <| Cd (V rfl) (fun hc2 => ?_) (fun hc2 => ?_)
  ·have hc2s := hc2; try simp only [BL] at hc2s
   exact Sq <| Rq <| O (As (Vn (k := 3) (get := rowG slCell default []))) <| O (As K) <| Nq <| Rx <| R2 rfl (V rfl) (V rfl) rfl rfl (by show sv2 (slRow ([])) (iv (0)) = sv2 (slRow (slotsSt l h).1) (iv (slotsSt l h).2); rw [slots_2 hf0, slotsK_0 hc2s])
  ·have hc2s := hc2; try simp only [BL] at hc2s
   have hra := rt_all hc0 hpl (by omega)
   have hHH : 0 ≤ (l.getD (Int.toNat (rtI l h.pl)) default).host := by rw [hra.2.1]; exact hpl.1
   exact Sk <| Sq <| Rt <| U (LBA (V rfl) rfl Ga24 Sz24 (by decide)) <| U (Mv (V rfl)) <| CT en97 (by exact ⟨⟨(Vi (g' := stG l) (V rfl) ⟨Z, Ir⟩), rfl⟩, ⟨(V rfl), rfl⟩, Z⟩) (slots_ct l (rtI l h.pl) (by assumption) (by first | assumption | omega) (by first | assumption | omega) (by first | assumption | exact kb_nil | exact kb_of (by assumption) | exact kb_of fam_c5)) <| U (As (V rfl)) <| U (As K) <| Nt <| Rx <| R2 rfl (V rfl) (V rfl) rfl rfl (by show sv2 (slRow (slotsR l (rtI l h.pl))) (iv (0)) = sv2 (slRow (slotsSt l h).1) (iv (slotsSt l h).2); rw [slots_2 hf0, slotsK_1 hc2s])
theorem givenF_ct (l : List Nd) (h : Hd) (hb : ∀ n ∈ l, n.kids.length ≤ 17592186043904) : Ct Try.prog 22 [SV.agg 1 (stG l), SV.agg 2 (hdCell h)] (sv2 (iv (givenSt l h).1) (iv (givenSt l h).2)) := by
 refine CtO 45 Try.func22 rfl rfl rfl fun E => row_lenA 0 (V (s := 0) rfl) rfl rfl fun hl0_0 => Sq <| Rt <| BxA 1 (V rfl) rfl rfl <| BxA 2 (V rfl) rfl rfl <| U (As K) <| U (As K) <| Nt <| Sq <| Rt <| U (LBA (V rfl) rfl Ga24 Sz24 (by decide)) <| U (LBA (V rfl) rfl Ga26 Sz26 (by decide)) <| CT en46 (by exact ⟨⟨(Vi (g' := stG l) (V rfl) ⟨Z, Ir⟩), rfl⟩, ⟨(Vi (g' := hdCell ⟨h.pl, h.use⟩) (V rfl) ⟨⟨Z, Ir⟩, Ir⟩), rfl⟩, Z⟩) (find_ct l h (by first | assumption | exact kb_nil | exact kb_of (by assumption) | exact kb_of fam_c5)) <| U (Mv (V rfl)) <| U (Xt (V rfl) (by decide)) <| U (Xt (V rfl) (by decide)) <| Al 3 zero61 rfl rfl <| StA (V rfl) rfl (V rfl) Sz61 <| U (As (V rfl)) <| Nt <| Sq <| Sq <| Rq <| O (Mv (V rfl)) <| O (Qn (V rfl) K) <| Nq <| Cd (V rfl) (fun hc1 => ?_) (fun hc1 => ?_)
 ·have hc1s := hc1; try simp only [BL] at hc1s
  exact Sq <| Rq <| O (Mv (V rfl)) <| O (As K) <| O (As (V rfl)) <| Nq <| Rx <| R2 rfl (V rfl) (V rfl) rfl rfl (by show sv2 (iv (0)) (iv ((findSt l h).2)) = sv2 (iv (givenSt l h).1) (iv (givenSt l h).2); rw [given_1 (fun z => hc1s ((first_find l h).symm.trans z)), first_find])
 ·have hc1s := hc1; try simp only [BL] at hc1s
  have hf0 : firstSt l [h] = 0 := (first_find l h).trans hc1s
  have hc0 := (first1 hf0).1
  have hpl := (first1 hf0).2.2.1
  have hfo := (find_ok hc1s).2.2
  have h24 := checkSt_len hc0
  have hfe : (findSt l h).1 = l.getD (Int.toNat h.pl) default := congrArg Prod.fst hfo
  have hpr : -1 ≤ (findSt l h).1.par ∧ (findSt l h).1.par < (l.length : Int) := by rw [hfe]; exact (st_n1 hc0 hpl).par
  refine Sk <| Sq <| Sq <| Rq <| O (FlB _ _ (V rfl) Un61 rfl 0 Sz3) <| O (LdB (V rfl) rfl Ga3 (by decide)) <| O (Lt (V rfl) K) <| Nq <| Cd (V rfl) (fun hc2 => ?_) (fun hc2 => ?_)
  ·have hc2s := hc2; try simp only [BL] at hc2s
   exact Sq <| Rq <| O (As K) <| O (As K) <| Nq <| Rx <| R2 rfl (V rfl) (V rfl) rfl rfl (by show sv2 (iv ((-1))) (iv (0)) = sv2 (iv (givenSt l h).1) (iv (givenSt l h).2); rw [given_2 hf0, givenI_n (by rw [← hfe]; exact hc2s)])
  ·have hc2s := hc2; try simp only [BL] at hc2s
   have hp : ¬ (l.getD (Int.toNat h.pl) default).par < 0 := by rw [← hfe]; exact hc2s
   refine Sk <| Sq <| Sq <| Rq <| O (LBA (V rfl) rfl Ga24 Sz24 (by decide)) <| O (FlB _ _ (V rfl) Un61 rfl 0 Sz3) <| O (LdB (V rfl) rfl Ga3 (by decide)) <| CQ en96 (by exact ⟨⟨(Vi (g' := stG l) (V rfl) ⟨Z, Ir⟩), rfl⟩, ⟨(V rfl), rfl⟩, Z⟩) (root_ct l ((findSt l h).1.par)) <| O (As (V rfl)) <| Nq <| Sq <| Rq <| O (Mv (V rfl)) <| O (Ge (V rfl) K) <| Nq <| Cd (V rfl) (fun hc3 => ?_) (fun hc3 => ?_)
   ·have hc3s := hc3; try simp only [BL] at hc3s
    have hra := rt_all hc0 (k := (findSt l h).1.par) (by omega) hc3s
    have hHH : 0 ≤ (l.getD (Int.toNat (rtI l (findSt l h).1.par)) default).host := by rw [hra.2.1]; omega
    have hsl := slotsR_len hc0 hra.1
    refine Sq <| Rt <| U (LBA (V rfl) rfl Ga24 Sz24 (by decide)) <| U (Mv (V rfl)) <| CT en97 (by exact ⟨⟨(Vi (g' := stG l) (V rfl) ⟨Z, Ir⟩), rfl⟩, ⟨(V rfl), rfl⟩, Z⟩) (slots_ct l (rtI l ((findSt l h).1.par)) (by assumption) (by first | assumption | omega) (by first | assumption | omega) (by first | assumption | exact kb_nil | exact kb_of (by assumption) | exact kb_of fam_c5)) <| U (Ln (V rfl) ts27) <| U (Mv K) <| Nt <| Bo <| Lo (fun (i : Nat) => ⟨[(3, SV.bp 2 0), (31, slRow (slotsR l (rtI l ((findSt l h).1.par)))), (32, iv (((slotsR l (rtI l ((findSt l h).1.par))).length : Int))), (33, iv ((i : Int)))], [(2, Own.box 2 (hdCell h) 26)]⟩) (fun (i : Nat) => i ≤ (slotsR l (rtI l (findSt l h).1.par)).length ∧ ∀ j, j < i → inG h.pl ((slotsR l (rtI l (findSt l h).1.par)).getD j default) = false) (fun (i : Nat) => (slotsR l (rtI l (findSt l h).1.par)).length - i) 0 (by show 0 ≤ (slotsR l (rtI l (findSt l h).1.par)).length ∧ ∀ j, j < 0 → inG h.pl ((slotsR l (rtI l (findSt l h).1.par)).getD j default) = false; exact ⟨Nat.zero_le _, fun j hj => absurd hj (Nat.not_lt_zero _)⟩) (We (ow := [(2, Own.box 2 (hdCell h) 26)]) (Vs rfl) (by exact ⟨⟨_, rfl, rfl, rfl, (An rfl)⟩, Z⟩)) <| ?_
    ·rintro i hI1
     have hJ1 : i ≤ (slotsR l (rtI l (findSt l h).1.par)).length ∧ ∀ j, j < i → inG h.pl ((slotsR l (rtI l (findSt l h).1.par)).getD j default) = false := hI1
     have hi1 := hJ1.1
     have hall := hJ1.2
     refine Sq <| Rq <| O (Lt (V rfl) (V rfl)) <| Nq <| Sq <| Cd (V rfl) (fun hc4 => ?_) (fun hc4 => ?_)
     ·have hc4s := hc4; try simp only [BL] at hc4s
      refine Sk <| Sq <| Bo <| Sq <| Rt <| U (IxN (i := i) (V rfl) (V rfl) ts27 te27 (by clear hall hJ1 hI1; omega)) <| U (LdA (V rfl) Ga41 Sz41 (by decide)) <| Al 4 zero41 rfl rfl <| StA (V rfl) rfl (V rfl) Sz41 <| Nt <| Sq <| Rq <| O (FlB _ _ (V rfl) Un41 rfl 0 Sz33) <| O (LdB (V rfl) rfl Ga33 (by decide)) <| O (FlB _ _ (V rfl) Un26 rfl 0 Sz3) <| O (LdB (V rfl) rfl Ga3 (by decide)) <| CQ en36 (by exact ⟨⟨(V rfl), rfl⟩, ⟨(V rfl), rfl⟩, Z⟩) (contains_ct (((slotsR l (rtI l ((findSt l h).1.par))).getD i default).given) h.pl) <| Nq <| Cd (V rfl) (fun hc5 => ?_) (fun hc5 => ?_)
      ·have hc5s := hc5; try simp only [BL] at hc5s
       exact Sq <| Rq <| O (FlB _ _ (V rfl) Un41 rfl 0 Sz3) <| O (LdB (V rfl) rfl Ga3 (by decide)) <| O (As (V rfl)) <| O (As K) <| Nq <| Rx <| R2 rfl (V rfl) (V rfl) rfl rfl (by show sv2 (iv (((slotsR l (rtI l ((findSt l h).1.par))).getD i default).pl)) (iv (0)) = sv2 (iv (givenSt l h).1) (iv (givenSt l h).2); rw [given_2 hf0, givenI_s hp (by rw [← hfe]; clear hall hJ1 hI1; omega), ← hfe, giv_hit (by clear hall hJ1 hI1; omega) hall hc5])
      ·have hc5s := hc5; try simp only [BL] at hc5s
       exact Sk <| Rq <| O (Ad (V rfl) K (by clear hall hJ1 hI1; omega)) <| O (Mv (V rfl)) <| Nq <| Nx (i + 1) (by show (i + 1) ≤ (slotsR l (rtI l (findSt l h).1.par)).length ∧ ∀ j, j < (i + 1) → inG h.pl ((slotsR l (rtI l (findSt l h).1.par)).getD j default) = false; exact ⟨by clear hall hJ1 hI1; omega, idxF_s (p := inG h.pl) hall hc5⟩) (by show (slotsR l (rtI l (findSt l h).1.par)).length - (i + 1) < (slotsR l (rtI l (findSt l h).1.par)).length - i; clear hall hJ1 hI1; omega) (We (ow := [(2, Own.box 2 (hdCell h) 26)]) (Vs rfl) (by exact ⟨⟨_, rfl, rfl, rfl, (An rfl)⟩, Z⟩))
     ·have hc4s := hc4; try simp only [BL] at hc4s
      exact Ex <| Sq <| Rq <| O (As K) <| O (As K) <| Nq <| Rx <| R2 rfl (V rfl) (V rfl) rfl rfl (by show sv2 (iv ((-1))) (iv (0)) = sv2 (iv (givenSt l h).1) (iv (givenSt l h).2); rw [given_2 hf0, givenI_s hp (by rw [← hfe]; clear hall hJ1 hI1; omega), ← hfe, giv_none (by clear hall hJ1 hI1; omega) hall])
   ·have hc3s := hc3; try simp only [BL] at hc3s
    exact Sk <| Sq <| Rq <| O (As K) <| O (As K) <| Nq <| Rx <| R2 rfl (V rfl) (V rfl) rfl rfl (by show sv2 (iv ((-1))) (iv (0)) = sv2 (iv (givenSt l h).1) (iv (givenSt l h).2); rw [given_2 hf0, givenI_r hp (by rw [← hfe]; omega)])
theorem shown_ct (l : List Nd) (k : Int) (hc : checkSt l = 0) (hk : 0 ≤ k ∧ k < (l.length : Int)) (hb : ∀ n ∈ l, n.kids.length ≤ 17592186043904) : Ct Try.prog 99 [SV.agg 1 (stG l), iv (k)] (inRow (shownL l k)) := by
 have h24 := checkSt_len hc
 have hrg := rt_ge l k
 have htl := topLn hc k hk
 have htr := htl.2.1
 have hsl := slotsR_len hc htr
 refine CtO 66 Try.func99 rfl rfl rfl fun E => row_lenA 0 (V (s := 0) rfl) rfl rfl fun hl0_0 => Sq <| Rt <| BxA 1 (V rfl) rfl rfl <| U (As (Vn (k := 1) (get := rowG inCell 0 []))) <| Nt <| Sq <| Sq <| Rq <| O (LBA (V rfl) rfl Ga24 Sz24 (by decide)) <| O (Mv (V rfl)) <| CQ en96 (by exact ⟨⟨(Vi (g' := stG l) (V rfl) ⟨Z, Ir⟩), rfl⟩, ⟨(V rfl), rfl⟩, Z⟩) (root_ct l k) <| O (As (V rfl)) <| Nq <| Sq <| Rq <| O (Mv (V rfl)) <| O (Ge (V rfl) K) <| Nq <| Cd (V rfl) (fun hc1 => ?_) (fun hc1 => ?_)
 ·have hc1s := hc1; try simp only [BL] at hc1s
  exact Sq <| Rq <| O (FlB _ _ (V rfl) Un24 rfl 0 Sz22) <| O (LdB (V rfl) rfl Ga22 (by decide)) <| O (Mv (V rfl)) <| O (Ix (V rfl) (V rfl) ts22 te22 (by first | omega | (clear hall hJ1 hI1; omega)) (by first | omega | (clear hall hJ1 hI1; omega))) <| O (Fl _ _ (V rfl) Un61 rfl 0 Sz33) <| O (Ld (V rfl) Ga33 (by decide)) <| O (As (V rfl)) <| Nq <| Rx <| R1 rfl (V rfl) rfl (by show inRow ((l.getD (Int.toNat (rtI l k)) default).kids) = inRow (shownL l k); rw [shown_r hc1s])
 ·have hc1s := hc1; try simp only [BL] at hc1s
  have hno : ¬ 0 ≤ rtI l k := hc1s
  refine Sk <| Sq <| Sq <| Rq <| O (LBA (V rfl) rfl Ga24 Sz24 (by decide)) <| O (Mv (V rfl)) <| CQ en137 (by exact ⟨⟨(Vi (g' := stG l) (V rfl) ⟨Z, Ir⟩), rfl⟩, ⟨(V rfl), rfl⟩, Z⟩) (top_ct l k (by assumption) (by first | assumption | omega)) <| O (As (V rfl)) <| Nq <| Sq <| Rq <| O (FlB _ _ (V rfl) Un24 rfl 0 Sz22) <| O (LdB (V rfl) rfl Ga22 (by decide)) <| O (Mv (V rfl)) <| O (Ix (V rfl) (V rfl) ts22 te22 (by first | omega | (clear hall hJ1 hI1; omega)) (by first | omega | (clear hall hJ1 hI1; omega))) <| O (Fl _ _ (V rfl) Un61 rfl 0 Sz3) <| O (Ld (V rfl) Ga3 (by decide)) <| O (Ge (V rfl) K) <| O (Mv (V rfl)) <| Og (Gy rfl rfl) (fun hg => FlB _ _ (V rfl) Un24 rfl 0 Sz22) <| Og (Gy rfl rfl) (fun hg => LdB (Vg (V rfl) hg) rfl Ga22 (by decide)) <| Og (Gy rfl rfl) (fun hg => Mv (V rfl)) <| Og (Gy rfl rfl) (fun hg => Ix (Vg (V rfl) hg) (Vg (V rfl) hg) ts22 te22 (by first | omega | (clear hall hJ1 hI1; omega)) (by first | omega | (clear hall hJ1 hI1; omega))) <| Og (Gy rfl rfl) (fun hg => Fl _ _ (Vg (V rfl) hg) Un61 rfl 0 Sz3) <| Og (Gy rfl rfl) (fun hg => Ld (Vg (V rfl) hg) Ga3 (by decide)) <| Og (Gy rfl rfl) (fun hg => Ge (Vg (V rfl) hg) K) <| O (Qa (V rfl) (fun h => Vg (V rfl) h)) <| Nq <| Cd (V rfl) (fun hc2 => ?_) (fun hc2 => ?_)
  ·have hc2s := hc2; try simp only [BL] at hc2s
   have hth : 90 ≤ (l.getD (Int.toNat k) default).tag ∧ 0 ≤ (l.getD (Int.toNat (topSt l k)) default).host := by simpa using hc2
   have hHH := hth.2
   refine Sq <| Rt <| U (LBA (V rfl) rfl Ga24 Sz24 (by decide)) <| U (Mv (V rfl)) <| CT en97 (by exact ⟨⟨(Vi (g' := stG l) (V rfl) ⟨Z, Ir⟩), rfl⟩, ⟨(V rfl), rfl⟩, Z⟩) (slots_ct l (topSt l k) (by assumption) (by first | assumption | omega) (by first | assumption | omega) (by first | assumption | exact kb_nil | exact kb_of (by assumption) | exact kb_of fam_c5)) <| U (Ln (V rfl) ts27) <| U (Mv K) <| Nt <| Bo <| Lo (fun (i : Nat) => ⟨[(1, iv (k)), (2, SV.bp 1 0), (41, slRow (slotsR l (topSt l k))), (42, iv (((slotsR l (topSt l k)).length : Int))), (43, iv ((i : Int)))], [(1, Own.box 1 (stG l) 24)]⟩) (fun (i : Nat) => i ≤ (slotsR l (topSt l k)).length ∧ ∀ j, j < i → inSlot k ((slotsR l (topSt l k)).getD j default) = false) (fun (i : Nat) => (slotsR l (topSt l k)).length - i) 0 (by show 0 ≤ (slotsR l (topSt l k)).length ∧ ∀ j, j < 0 → inSlot k ((slotsR l (topSt l k)).getD j default) = false; exact ⟨Nat.zero_le _, fun j hj => absurd hj (Nat.not_lt_zero _)⟩) (We (ow := [(1, Own.box 1 (stG l) 24)]) (Vs rfl) (by exact ⟨⟨_, rfl, rfl, rfl, (An rfl)⟩, Z⟩)) <| ?_
   ·rintro i hI1
    have hJ1 : i ≤ (slotsR l (topSt l k)).length ∧ ∀ j, j < i → inSlot k ((slotsR l (topSt l k)).getD j default) = false := hI1
    have hi1 := hJ1.1
    have hall := hJ1.2
    refine Sq <| Rq <| O (Lt (V rfl) (V rfl)) <| Nq <| Sq <| Cd (V rfl) (fun hc3 => ?_) (fun hc3 => ?_)
    ·have hc3s := hc3; try simp only [BL] at hc3s
     refine Sk <| Sq <| Bo <| Sq <| Rt <| U (IxN (i := i) (V rfl) (V rfl) ts27 te27 (by first | omega | (clear hall hJ1 hI1; omega))) <| U (LdA (V rfl) Ga41 Sz41 (by decide)) <| Al 2 zero41 rfl rfl <| StA (V rfl) rfl (V rfl) Sz41 <| Nt <| Sq <| Rq <| O (FlB _ _ (V rfl) Un41 rfl 0 Sz3) <| O (LdB (V rfl) rfl Ga3 (by decide)) <| O (Mv (V rfl)) <| O (Ql (V rfl) (V rfl)) <| O (Mv (V rfl)) <| Og (Gy rfl rfl) (fun hg => FlB _ _ (V rfl) Un41 rfl 0 Sz33) <| Og (Gy rfl rfl) (fun hg => LdB (Vg (V rfl) hg) rfl Ga33 (by decide)) <| Og (Gy rfl rfl) (fun hg => Ln (Vg (V rfl) hg) ts33) <| Og (Gy rfl rfl) (fun hg => Gt (Vg (V rfl) hg) K) <| O (Qa (V rfl) (fun h => Vg (V rfl) h)) <| Nq <| Cd (V rfl) (fun hc4 => ?_) (fun hc4 => ?_)
     ·have hc4s := hc4; try simp only [BL] at hc4s
      exact Sq <| Rq <| O (FlB _ _ (V rfl) Un41 rfl 0 Sz33) <| O (LdB (V rfl) rfl Ga33 (by decide)) <| O (As (V rfl)) <| Nq <| Rx <| R1 rfl (V rfl) rfl (by show inRow (((slotsR l (topSt l k)).getD i default).given) = inRow (shownL l k); rw [shown_hit hno hth (by clear hall hJ1 hI1; omega) hall (inSlot_t hc4)])
     ·have hc4s := hc4; try simp only [BL] at hc4s
      exact Sk <| Rq <| O (Ad (V rfl) K (by first | omega | (clear hall hJ1 hI1; omega))) <| O (Mv (V rfl)) <| Nq <| Nx (i + 1) (by show (i + 1) ≤ (slotsR l (topSt l k)).length ∧ ∀ j, j < (i + 1) → inSlot k ((slotsR l (topSt l k)).getD j default) = false; exact ⟨by clear hall hJ1 hI1; omega, idxF_s (p := inSlot k) hall (inSlot_f hc4)⟩) (by show (slotsR l (topSt l k)).length - (i + 1) < (slotsR l (topSt l k)).length - i; clear hall hJ1 hI1; omega) (We (ow := [(1, Own.box 1 (stG l) 24)]) (Vs rfl) (by exact ⟨⟨_, rfl, rfl, rfl, (An rfl)⟩, Z⟩))
    ·have hc3s := hc3; try simp only [BL] at hc3s
     exact Ex <| Sq <| Rq <| O (FlB _ _ (V rfl) Un24 rfl 0 Sz22) <| O (LdB (V rfl) rfl Ga22 (by decide)) <| O (Mv (V rfl)) <| O (Ix (V rfl) (V rfl) ts22 te22 (by first | omega | (clear hall hJ1 hI1; omega)) (by first | omega | (clear hall hJ1 hI1; omega))) <| O (Fl _ _ (V rfl) Un61 rfl 0 Sz33) <| O (Ld (V rfl) Ga33 (by decide)) <| O (As (V rfl)) <| Nq <| Rx <| R1 rfl (V rfl) rfl (by show inRow ((l.getD (Int.toNat k) default).kids) = inRow (shownL l k); rw [shown_none hno hth (by clear hall hJ1 hI1; omega) hall])
  ·have hc2s := hc2; try simp only [BL] at hc2s
   have hth : ¬ (90 ≤ (l.getD (Int.toNat k) default).tag ∧ 0 ≤ (l.getD (Int.toNat (topSt l k)) default).host) := fun q => by rw [decide_eq_true q.1, decide_eq_true q.2] at hc2; cases hc2
   exact Sk <| Sq <| Rq <| O (FlB _ _ (V rfl) Un24 rfl 0 Sz22) <| O (LdB (V rfl) rfl Ga22 (by decide)) <| O (Mv (V rfl)) <| O (Ix (V rfl) (V rfl) ts22 te22 (by first | omega | (clear hall hJ1 hI1; omega)) (by first | omega | (clear hall hJ1 hI1; omega))) <| O (Fl _ _ (V rfl) Un61 rfl 0 Sz33) <| O (Ld (V rfl) Ga33 (by decide)) <| O (As (V rfl)) <| Nq <| Rx <| R1 rfl (V rfl) rfl (by show inRow ((l.getD (Int.toNat k) default).kids) = inRow (shownL l k); rw [shown_k hno hth])
theorem flatF_ct (l : List Nd) (h : Hd) (hb : ∀ n ∈ l, n.kids.length ≤ 17592186043904) : Ct Try.prog 23 [SV.agg 1 (stG l), SV.agg 2 (hdCell h)] (sv2 (inRow (flatSt l h).1) (iv (flatSt l h).2)) := by
 refine CtO 39 Try.func23 rfl rfl rfl fun E => row_lenA 0 (V (s := 0) rfl) rfl rfl fun hl0_0 => Sq <| Rt <| BxA 1 (V rfl) rfl rfl <| BxA 2 (V rfl) rfl rfl <| U (As (Vn (k := 1) (get := rowG inCell 0 []))) <| U (As K) <| Nt <| Sq <| Sq <| Rt <| U (LBA (V rfl) rfl Ga24 Sz24 (by decide)) <| U (LBA (V rfl) rfl Ga26 Sz26 (by decide)) <| CT en46 (by exact ⟨⟨(Vi (g' := stG l) (V rfl) ⟨Z, Ir⟩), rfl⟩, ⟨(Vi (g' := hdCell ⟨h.pl, h.use⟩) (V rfl) ⟨⟨Z, Ir⟩, Ir⟩), rfl⟩, Z⟩) (find_ct l h (by first | assumption | exact kb_nil | exact kb_of (by assumption) | exact kb_of fam_c5)) <| U (Mv (V rfl)) <| U (Xt (V rfl) (by decide)) <| U (Xt (V rfl) (by decide)) <| Al 3 zero61 rfl rfl <| StA (V rfl) rfl (V rfl) Sz61 <| U (As (V rfl)) <| Nt <| Sq <| Rq <| O (Mv (V rfl)) <| O (Qn (V rfl) K) <| Nq <| Cd (V rfl) (fun hc1 => ?_) (fun hc1 => ?_)
 ·have hc1s := hc1; try simp only [BL] at hc1s
  exact Sq <| Rq <| O (Mv (V rfl)) <| O (As (Vn (k := 1) (get := rowG inCell 0 []))) <| O (As (V rfl)) <| Nq <| Rx <| R2 rfl (V rfl) (V rfl) rfl rfl (by show sv2 (inRow ([])) (iv ((findSt l h).2)) = sv2 (inRow (flatSt l h).1) (iv (flatSt l h).2); rw [flat_1 (fun z => hc1s ((first_find l h).symm.trans z)), first_find])
 ·have hc1s := hc1; try simp only [BL] at hc1s
  have hf0 : firstSt l [h] = 0 := (first_find l h).trans hc1s
  have hc0 := (first1 hf0).1
  have hpl := (first1 hf0).2.2.1
  have hfo := (find_ok hc1s).2.2
  have h24 := checkSt_len hc0
  refine Sk <| Sq <| Rt <| U (FlB _ _ (V rfl) Un26 rfl 0 Sz3) <| U (LdB (V rfl) rfl Ga3 (by decide)) <| t_bsO 4 (n := 1) (zget := fun _ => iv 0) [(fun _ => iv (h.pl))] (rowG inCell 0 [h.pl]) Un33 Sz3 zero3 (by decide) (by decide) rfl (by decide) ⟨⟨rfl, .inr ⟨rfl, (V rfl), rfl⟩, rfl⟩, Z⟩ ⟨Z, ⟨Z, rfl⟩⟩ rfl <| U (As (V rfl)) <| Nt <| Sq <| Sq <| Rq <| O (As K) <| Nq <| Bo <| c_mv 4 60 rfl rfl <| c_ownE 60 (([h.pl])) rfl (by rfl) <| Lo (uc2 fun (i : Nat) (L : List Int) => ⟨[(2, SV.bp 1 0), (8, SV.own 60), (9, iv ((i : Int)))], [(1, Own.box 1 (fun zt => SV.renm (mvN 4 60) ((stG l) zt)) 24), (60, ownOf inCell 1 0 L 3)]⟩) (uc2 fun (i : Nat) (L : List Int) => FlI l h.pl i L) (uc2 fun (i : Nat) (L : List Int) => (flatP l h.pl).length - i) (0, [h.pl]) (by show FlI l h.pl 0 ([h.pl]); exact fl_0 l h.pl) (We (ow := [(1, Own.box 1 (fun zt => SV.renm (mvN 4 60) ((stG l) zt)) 24), (60, ownOf inCell 1 0 (([h.pl])) 3)]) (Vs rfl) (by exact ⟨⟨_, rfl, rfl, rfl, (An rfl)⟩, ⟨_, rfl, rfl⟩, Z⟩)) <| ?_
  ·rintro ⟨i, L⟩ hI1
   have hJ1 : FlI l h.pl i L := hI1
   have hfl := fl_len hc0 hpl hJ1
   have hfp := flat_len2 hc0 hpl
   refine Sq <| Sq <| Rq <| O (Mv (V rfl)) <| O (Mv (V rfl)) <| O (LnO (V rfl) rfl ts33) <| O (Lt (V rfl) (V rfl)) <| Nq <| Cd (V rfl) (fun hc2 => ?_) (fun hc2 => ?_)
   ·have hc2s := hc2; try simp only [BL] at hc2s
    have hil : i < L.length := by omega
    have hfs := fl_s hc0 hpl hJ1 hil
    have hin := (under_in hc0 hpl hfs.2).1
    have hfn := fl_len hc0 hpl hfs.1
    have hln := congrArg List.length (rfl : L.take (i + 1) ++ shownL l (L.getD i 0) ++ L.drop (i + 1) = L.take (i + 1) ++ shownL l (L.getD i 0) ++ L.drop (i + 1))
    have hsn : L.length + (shownL l (L.getD i 0)).length ≤ (flatP l h.pl).length := by have := hfn.2; rw [List.length_append, List.length_append, List.length_take, List.length_drop] at this; omega
    refine Sk <| Sq <| Bo <| c_rd (fun e => ⟨[(28, cj (e 0) (SV.own 60)), (29, cj (e 1) (iv ((i : Int)))), (30, cj (e 2) (iv (((i : Int)) + 1))), (31, cj (e 3) (SV.agg 1 (fun zi => (fun zt => SV.renm (mvN 4 60) ((stG l) zt)) (0 + zi)))), (32, cj (e 4) (SV.own 60)), (33, cj (e 5) (iv ((i : Int)))), (34, cj (e 6) (SV.oe 60 1 i 0)), (35, cj (e 7) (iv ((L.getD i 0)))), (36, cj (e 8) (inRow (shownL l ((L.getD i 0))))), (37, cj (e 9) (SV.own 5)), (8, cv (e 10) (SV.own 5) (SV.own 60)), (2, SV.bp 1 0), (9, iv ((i : Int)))], (cb (e 9) [(1, Own.box 1 (fun zt => SV.renm (mvN 4 60) ((stG l) zt)) 24), (5, ownOf inCell 1 0 (L.take (Int.toNat (((i : Int)) + 1)) ++ (shownL l ((L.getD i 0))) ++ L.drop (Int.toNat (((i : Int)) + 1))) 3)] [(1, Own.box 1 (fun zt => SV.renm (mvN 4 60) ((stG l) zt)) 24), (60, ownOf inCell 1 0 L 3)])⟩) ⟨[(29, iv ((i : Int))), (30, iv (((i : Int)) + 1)), (31, SV.agg 1 (fun zi => (fun zt => SV.renm (mvN 4 60) ((stG l) zt)) (0 + zi))), (33, iv ((i : Int))), (35, iv ((L.getD i 0))), (36, inRow (shownL l ((L.getD i 0)))), (8, SV.own 5), (2, SV.bp 1 0), (9, iv ((i : Int)))], [(1, Own.box 1 (fun zt => SV.renm (mvN 4 60) ((stG l) zt)) 24), (5, ownOf inCell 1 0 (L.take (Int.toNat (((i : Int)) + 1)) ++ (shownL l ((L.getD i 0))) ++ L.drop (Int.toNat (((i : Int)) + 1))) 3)]⟩ (by kernel_rfl) (by kernel_rfl) ?_ ⟨?_, ?_, ?_, ?_, ?_, ?_, ?_, ?_, ?_, ?_, ?_, Z⟩ ?_ ?_
    ·show Weak _ _ ⟨[(28, SV.junk), (29, SV.junk), (30, SV.junk), (31, SV.junk), (32, SV.junk), (33, SV.junk), (34, SV.junk), (35, SV.junk), (36, SV.junk), (37, SV.junk), (8, SV.own 60), (2, SV.bp 1 0), (9, iv ((i : Int)))], [(1, Own.box 1 (fun zt => SV.renm (mvN 4 60) ((stG l) zt)) 24), (60, ownOf inCell 1 0 L 3)]⟩
     refine We ?_ ?_
     ·exact ⟨Vj, Vj, Vj, Vj, Vj, Vj, Vj, Vj, Vj, Vj, V rfl, V rfl, V rfl, Z⟩
     ·exact ⟨⟨_, rfl, ⟨rfl, rfl, (An rfl)⟩⟩, ⟨_, rfl, rfl⟩, Z⟩
    ·intro e hdn he hdp
     obtain ⟨h9, h10, -⟩ := dns1 hdn he [9, 10] (by kernel_rfl)
     simp only [setE, he, h9, h10, cj_t, cj_f, cjn_t, cjn_f, cb_t, cb_f, cv_t, cv_f]
     refine U (Mv (V rfl)) <| Nt <| We ?_ ?_
     ·exact ⟨V rfl, V rfl, V rfl, V rfl, V rfl, V rfl, V rfl, V rfl, V rfl, Vj, V rfl, V rfl, V rfl, Z⟩
     ·exact ⟨⟨_, rfl, ⟨rfl, rfl, (An rfl)⟩⟩, ⟨_, rfl, rfl⟩, Z⟩
    ·intro e hdn he hdp
     obtain ⟨-, h9, -⟩ := dns1 hdn he [2, 9] (by kernel_rfl)
     simp only [setE, he, h9, cj_t, cj_f, cjn_t, cjn_f, cb_t, cb_f, cv_t, cv_f]
     refine U (Mv (V rfl)) <| Nt <| We ?_ ?_
     ·exact ⟨V rfl, V rfl, V rfl, V rfl, V rfl, V rfl, V rfl, V rfl, V rfl, Vj, V rfl, V rfl, V rfl, Z⟩
     ·exact ⟨⟨_, rfl, ⟨rfl, rfl, (An rfl)⟩⟩, ⟨_, rfl, rfl⟩, Z⟩
    ·intro e hdn he hdp
     obtain ⟨h1, -⟩ := ups hdn [1] hdp (by kernel_rfl)
     obtain ⟨h9, -⟩ := dns1 hdn he [9] (by kernel_rfl)
     simp only [setE, h1, he, h9, cj_t, cj_f, cjn_t, cjn_f, cb_t, cb_f, cv_t, cv_f]
     refine U (Ad (V rfl) K (by omega)) <| Nt <| We ?_ ?_
     ·exact ⟨V rfl, V rfl, V rfl, V rfl, V rfl, V rfl, V rfl, V rfl, V rfl, Vj, V rfl, V rfl, V rfl, Z⟩
     ·exact ⟨⟨_, rfl, ⟨rfl, rfl, (An rfl)⟩⟩, ⟨_, rfl, rfl⟩, Z⟩
    ·intro e hdn he hdp
     obtain ⟨-, h9, -⟩ := dns1 hdn he [8, 9] (by kernel_rfl)
     simp only [setE, he, h9, cj_t, cj_f, cjn_t, cjn_f, cb_t, cb_f, cv_t, cv_f]
     refine U (LBA (V rfl) rfl Ga24 Sz24 (by decide)) <| Nt <| We ?_ ?_
     ·exact ⟨V rfl, V rfl, V rfl, V rfl, V rfl, V rfl, V rfl, V rfl, V rfl, Vj, V rfl, V rfl, V rfl, Z⟩
     ·exact ⟨⟨_, rfl, ⟨rfl, rfl, (An rfl)⟩⟩, ⟨_, rfl, rfl⟩, Z⟩
    ·intro e hdn he hdp
     obtain ⟨-, -, -, h9, h10, -⟩ := dns1 hdn he [6, 7, 8, 9, 10] (by kernel_rfl)
     simp only [setE, he, h9, h10, cj_t, cj_f, cjn_t, cjn_f, cb_t, cb_f, cv_t, cv_f]
     refine U (Mv (V rfl)) <| Nt <| We ?_ ?_
     ·exact ⟨V rfl, V rfl, V rfl, V rfl, V rfl, V rfl, V rfl, V rfl, V rfl, Vj, V rfl, V rfl, V rfl, Z⟩
     ·exact ⟨⟨_, rfl, ⟨rfl, rfl, (An rfl)⟩⟩, ⟨_, rfl, rfl⟩, Z⟩
    ·intro e hdn he hdp
     obtain ⟨-, -, -, h9, -⟩ := dns1 hdn he [6, 7, 8, 9] (by kernel_rfl)
     simp only [setE, he, h9, cj_t, cj_f, cjn_t, cjn_f, cb_t, cb_f, cv_t, cv_f]
     refine U (Mv (V rfl)) <| Nt <| We ?_ ?_
     ·exact ⟨V rfl, V rfl, V rfl, V rfl, V rfl, V rfl, V rfl, V rfl, V rfl, Vj, V rfl, V rfl, V rfl, Z⟩
     ·exact ⟨⟨_, rfl, ⟨rfl, rfl, (An rfl)⟩⟩, ⟨_, rfl, rfl⟩, Z⟩
    ·intro e hdn he hdp
     obtain ⟨h5, h4, -⟩ := ups hdn [5, 4] hdp (by kernel_rfl)
     obtain ⟨-, -, h9, -⟩ := dns1 hdn he [7, 8, 9] (by kernel_rfl)
     simp only [setE, h4, h5, he, h9, cj_t, cj_f, cjn_t, cjn_f, cb_t, cb_f, cv_t, cv_f]
     refine U (IOn (i := i) (V rfl) rfl (V rfl) ts33 te33 (by omega)) <| Nt <| We ?_ ?_
     ·exact ⟨V rfl, V rfl, V rfl, V rfl, V rfl, V rfl, V rfl, V rfl, V rfl, Vj, V rfl, V rfl, V rfl, Z⟩
     ·exact ⟨⟨_, rfl, ⟨rfl, rfl, (An rfl)⟩⟩, ⟨_, rfl, rfl⟩, Z⟩
    ·intro e hdn he hdp
     obtain ⟨h6, h5, h4, -⟩ := ups hdn [6, 5, 4] hdp (by kernel_rfl)
     obtain ⟨-, h9, -⟩ := dns1 hdn he [8, 9] (by kernel_rfl)
     simp only [setE, h4, h5, h6, he, h9, cj_t, cj_f, cjn_t, cjn_f, cb_t, cb_f, cv_t, cv_f]
     refine U (LdO (V rfl) rfl Ga3 (by decide)) <| Nt <| We ?_ ?_
     ·exact ⟨V rfl, V rfl, V rfl, V rfl, V rfl, V rfl, V rfl, V rfl, V rfl, Vj, V rfl, V rfl, V rfl, Z⟩
     ·exact ⟨⟨_, rfl, ⟨rfl, rfl, (An rfl)⟩⟩, ⟨_, rfl, rfl⟩, Z⟩
    ·intro e hdn he hdp
     obtain ⟨h7, h6, h5, h4, h3, -⟩ := ups hdn [7, 6, 5, 4, 3] hdp (by kernel_rfl)
     obtain ⟨h9, -⟩ := dns1 hdn he [9] (by kernel_rfl)
     simp only [setE, h3, h4, h5, h6, h7, he, h9, cj_t, cj_f, cjn_t, cjn_f, cb_t, cb_f, cv_t, cv_f]
     refine CT en99 (by exact ⟨⟨(Vi (g' := stG l) (V rfl) ⟨Z, Ir⟩), rfl⟩, ⟨(V rfl), rfl⟩, Z⟩) (shown_ct l ((L.getD i 0)) (by assumption) (by first | assumption | omega) (by first | assumption | exact kb_nil | exact kb_of (by assumption) | exact kb_of fam_c5)) <| Nt <| We ?_ ?_
     ·exact ⟨V rfl, V rfl, V rfl, V rfl, V rfl, V rfl, V rfl, V rfl, V rfl, Vj, V rfl, V rfl, V rfl, Z⟩
     ·exact ⟨⟨_, rfl, ⟨rfl, rfl, (An rfl)⟩⟩, ⟨_, rfl, rfl⟩, Z⟩
    ·intro e hdn he hdp
     obtain ⟨h8, h7, h6, h5, h4, h3, h2, h1, h0, -⟩ := ups hdn [8, 7, 6, 5, 4, 3, 2, 1, 0] hdp (by kernel_rfl)
     obtain ⟨h10, -⟩ := dns1 hdn he [10] (by kernel_rfl)
     simp only [setE, h0, h1, h2, h3, h4, h5, h6, h7, h8, he, h10, cj_t, cj_f, cjn_t, cjn_f, cb_t, cb_f, cv_t, cv_f]
     refine CM (cargs := [SV.own 1000, iv (((i : Int)) + 1), inRow (shownL l ((L.getD i 0)))]) [(1000, 60)] [(0, 5)] en98 (by exact ⟨(V rfl), (V rfl), (V rfl), Z⟩) (insI_ct L (shownL l ((L.getD i 0))) (((i : Int)) + 1) (by first | omega | assumption) (by first | omega | (simp only [List.length_cons, List.length_nil]; omega) | assumption)) (by exact ⟨⟨_, rfl, rfl⟩, Z⟩) rfl (freshN_cons (fresh_mk ⟨rfl, rfl, rfl, rfl, rfl, rfl, rfl, rfl, rfl, rfl, rfl, rfl, rfl, Z⟩ rfl rfl) rfl rfl) rfl rfl <| Nt <| We ?_ ?_
     ·exact (Vs rfl)
     ·exact ⟨⟨_, rfl, ⟨rfl, rfl, (An rfl)⟩⟩, ⟨_, rfl, rfl⟩, Z⟩
    ·intro e hdn he hdp
     obtain ⟨h9, h8, h7, h6, h5, h4, h3, h2, h1, h0, -⟩ := ups hdn [9, 8, 7, 6, 5, 4, 3, 2, 1, 0] hdp (by kernel_rfl)
     simp only [setE, h0, h1, h2, h3, h4, h5, h6, h7, h8, h9, he, cj_t, cj_f, cjn_t, cjn_f, cb_t, cb_f, cv_t, cv_f]
     refine U (As (V rfl)) <| Nt <| We ?_ ?_
     ·exact (Vs rfl)
     ·exact ⟨⟨_, rfl, ⟨rfl, rfl, (An rfl)⟩⟩, ⟨_, rfl, rfl⟩, Z⟩
    ·intro e he
     have h0 := he 0 (by decide)
     have h1 := he 1 (by decide)
     have h2 := he 2 (by decide)
     have h3 := he 3 (by decide)
     have h4 := he 4 (by decide)
     have h5 := he 5 (by decide)
     have h6 := he 6 (by decide)
     have h7 := he 7 (by decide)
     have h8 := he 8 (by decide)
     have h9 := he 9 (by decide)
     have h10 := he 10 (by decide)
     show Weak _ ⟨[(28, cj (e 0) (SV.own 60)), (29, cj (e 1) (iv ((i : Int)))), (30, cj (e 2) (iv (((i : Int)) + 1))), (31, cj (e 3) (SV.agg 1 (fun zi => (fun zt => SV.renm (mvN 4 60) ((stG l) zt)) (0 + zi)))), (32, cj (e 4) (SV.own 60)), (33, cj (e 5) (iv ((i : Int)))), (34, cj (e 6) (SV.oe 60 1 i 0)), (35, cj (e 7) (iv ((L.getD i 0)))), (36, cj (e 8) (inRow (shownL l ((L.getD i 0))))), (37, cj (e 9) (SV.own 5)), (8, cv (e 10) (SV.own 5) (SV.own 60)), (2, SV.bp 1 0), (9, iv ((i : Int)))], (cb (e 9) [(1, Own.box 1 (fun zt => SV.renm (mvN 4 60) ((stG l) zt)) 24), (5, ownOf inCell 1 0 (L.take (Int.toNat (((i : Int)) + 1)) ++ (shownL l ((L.getD i 0))) ++ L.drop (Int.toNat (((i : Int)) + 1))) 3)] [(1, Own.box 1 (fun zt => SV.renm (mvN 4 60) ((stG l) zt)) 24), (60, ownOf inCell 1 0 L 3)])⟩ _
     simp only [h0, h1, h2, h3, h4, h5, h6, h7, h8, h9, h10]
     show Weak _ ⟨[(28, SV.own 60), (29, iv ((i : Int))), (30, iv (((i : Int)) + 1)), (31, SV.agg 1 (fun zi => (fun zt => SV.renm (mvN 4 60) ((stG l) zt)) (0 + zi))), (32, SV.own 60), (33, iv ((i : Int))), (34, SV.oe 60 1 i 0), (35, iv ((L.getD i 0))), (36, inRow (shownL l ((L.getD i 0)))), (37, SV.own 5), (8, SV.own 5), (2, SV.bp 1 0), (9, iv ((i : Int)))], [(1, Own.box 1 (fun zt => SV.renm (mvN 4 60) ((stG l) zt)) 24), (5, ownOf inCell 1 0 (L.take (Int.toNat (((i : Int)) + 1)) ++ (shownL l ((L.getD i 0))) ++ L.drop (Int.toNat (((i : Int)) + 1))) 3)]⟩ _
     refine We ?_ ?_
     ·exact ⟨V rfl, V rfl, Va (V rfl) (An rfl), V rfl, V rfl, V rfl, V rfl, V rfl, V rfl, Z⟩
     ·exact ⟨⟨_, rfl, ⟨rfl, rfl, (An rfl)⟩⟩, ⟨_, rfl, rfl⟩, Z⟩
    exact Rq <| O (Mv (V rfl)) <| O (Ad (V rfl) K (by omega)) <| O (As (V rfl)) <| Nq <| k_mv 5 60 rfl rfl <| k_ownE 60 ((L.take (i + 1) ++ shownL l (L.getD i 0) ++ L.drop (i + 1))) rfl (by rw [show Int.toNat ((i : Int) + 1) = i + 1 by omega]) <| Nx (i + 1, L.take (i + 1) ++ shownL l (L.getD i 0) ++ L.drop (i + 1)) (by show FlI l h.pl (i + 1) (L.take (i + 1) ++ shownL l (L.getD i 0) ++ L.drop (i + 1)); exact hfs.1) (by show (flatP l h.pl).length - (i + 1) < (flatP l h.pl).length - i; omega) (We (ow := [(1, Own.box 1 (fun zt => SV.renm (mvN 4 60) ((stG l) zt)) 24), (60, ownOf inCell 1 0 ((L.take (i + 1) ++ shownL l (L.getD i 0) ++ L.drop (i + 1))) 3)]) (Vs rfl) (by exact ⟨⟨_, rfl, rfl, rfl, (An rfl)⟩, ⟨_, rfl, rfl⟩, Z⟩))
   ·have hc2s := hc2; try simp only [BL] at hc2s
    exact Ex <| Sq <| Rq <| O (Mv (V rfl)) <| O (As (V rfl)) <| O (As K) <| Nq <| FzC 60 rfl <| Rx <| R2 rfl (V rfl) (V rfl) rfl rfl (by show sv2 (inRow L) (iv (0)) = sv2 (inRow (flatSt l h).1) (iv (flatSt l h).2); rw [flat_2 hf0, fl_end hJ1 (by omega)])
end Go.Proofs.Ytmcdamcedemdiaa
namespace Go.Proofs.Ytmcdamcedemdiaa
open Go.RowKit Go.Eng
section
variable {l : List Nd} {h : Hd}
theorem once_3 (hc : checkSt l = 0) (hk : 0 ≤ h.pl ∧ h.pl < (l.length : Int)) {i j : Nat} (hi : i < (slotsK l h.pl).length) (hj : j < ((slotsK l h.pl).getD i default).given.length) :
    (0 ≤ ((slotsK l h.pl).getD i default).given.getD j 0 ∧ ((slotsK l h.pl).getD i default).given.getD j 0 < (l.length : Int)) ∧
    (((((kget (seenK (gvnL (slotsK l h.pl) i j)) (((slotsK l h.pl).getD i default).given.getD j 0)).getD false) || (!decide ((givenSt l ⟨((slotsK l h.pl).getD i default).given.getD j 0, (l.getD (((slotsK l h.pl).getD i default).given.getD j 0).toNat default).uses⟩).2 = 0))) ||
      (!decide ((givenSt l ⟨((slotsK l h.pl).getD i default).given.getD j 0, (l.getD (((slotsK l h.pl).getD i default).given.getD j 0).toNat default).uses⟩).1 = ((slotsK l h.pl).getD i default).pl))) || (!decide ((l.getD (((slotsK l h.pl).getD i default).given.getD j 0).toNat default).par = h.pl))) = false := by
  by_cases q : rtI l h.pl < 0
  · rw [slotsK_0 q] at hi; exact absurd hi (Nat.not_lt_zero _)
  · rw [slotsK_1 q] at hi hj ⊢
    have hra := rt_all hc hk (by omega)
    obtain ⟨a, b, c, d, e⟩ := once_2 hc hra.1 (by rw [hra.2.1]; exact hk.1) hi hj
    refine ⟨d, ?_⟩
    rw [given_2 (first_in hc d e), seenK_any, decide_eq_false a, c, hra.2.1, decide_eq_true rfl]
    show (((false || !(decide ((0 : Int) = 0))) || !decide (givenI l _ = _)) || !decide (h.pl = h.pl)) = false
    rw [b]; simp
theorem slotsK_len2 (hc : checkSt l = 0) (k : Int) : (slotsK l k).length ≤ 24 := by
  by_cases q : rtI l k < 0
  · rw [slotsK_0 q]; exact Nat.zero_le _
  · rw [slotsK_1 q]
    have := rt_ge l k
    exact slotsR_len hc ⟨by omega, this.2⟩
theorem given_len (hc : checkSt l = 0) {k : Int} (hk : 0 ≤ k ∧ k < (l.length : Int)) {i : Nat} (hi : i < (slotsK l k).length) : ((slotsK l k).getD i default).given.length ≤ 24 := by
  by_cases q : rtI l k < 0
  · rw [slotsK_0 q] at hi; exact absurd hi (Nat.not_lt_zero _)
  · rw [slotsK_1 q] at hi ⊢
    have hra := rt_all hc hk (by omega)
    have I := slInv l (l.getD (rtI l k).toNat default).host (ordSt l (rtI l k))
    rcases (I.num _ (mem_getD (d := default) hi)).2.2 with e | e
    · show (List.getD (slotsL l _ _) i default).given.length ≤ 24
      rw [e]; exact Nat.zero_le _
    · show (List.getD (slotsL l _ _) i default).given.length ≤ 24
      rw [e, hra.2.1]
      exact Nat.le_trans (List.length_filter_le _ _) (kids_few hc (i := k.toNat) (by omega))
end
end Go.Proofs.Ytmcdamcedemdiaa
namespace Go.Proofs.Ytmcdamcedemdiaa
open Go.RowKit Go.Eng
set_option maxHeartbeats 1000000 in
theorem placed_ct  : Ct Try.prog 25 [] (bv true) := by
 refine CtO 113 Try.func25 rfl rfl rfl fun E => Sq <| Rq <| O (As K) <| Nq <| Sq <| Rt <| CT en103 (by exact Z) (family_ct) <| U (Mv (V rfl)) <| U (Xt (V rfl) (by decide)) <| U (Xt (V rfl) (by decide)) <| U (Xt (V rfl) (by decide)) <| Al 1 zero24 rfl rfl <| Al 2 zero113 rfl rfl <| StA (V rfl) rfl (V rfl) Sz24 <| StA (V rfl) rfl (V rfl) Sz113 <| U (As (V rfl)) <| Nt <| Sq <| Rt <| U (LBA (V rfl) rfl Ga24 Sz24 (by decide)) <| U (q_ixB (i := 0) (V rfl) K ta113 te113 (by rw [al113]; decide)) <| U (LBA (V rfl) rfl Ga26 Sz26 (by decide)) <| CT en74 (by exact ⟨⟨(Vi (g' := stG fam5) (V rfl) ⟨Z, Ir⟩), rfl⟩, ⟨(Vi (g' := hdCell ⟨0, 1⟩) (V rfl) ⟨⟨Z, Ir⟩, Ir⟩), rfl⟩, ⟨K, rfl⟩, Z⟩) (attach_ct fam5 ⟨0, 1⟩ false (by first | assumption | exact kb_nil | exact kb_of (by assumption) | exact kb_of fam_c5)) <| U (Mv (V rfl)) <| U (Xt (V rfl) (by decide)) <| U (Xt (V rfl) (by decide)) <| U (Xt (V rfl) (by decide)) <| Al 3 zero26 rfl rfl <| StA (V rfl) rfl (V rfl) Sz24 <| StA (V rfl) rfl (V rfl) Sz26 <| U (As (V rfl)) <| Nt <| Sq <| Rt <| U (LBA (V rfl) rfl Ga24 Sz24 (by decide)) <| CT en40 (by exact ⟨⟨(Vi (g' := stG ((attSt fam5 ⟨0, 1⟩ false).1)) (V rfl) ⟨Z, Ir⟩), rfl⟩, ⟨K, rfl⟩, Z⟩) (make_ct ((attSt fam5 ⟨0, 1⟩ false).1) 90 (kb_of (by decide +kernel))) <| U (Mv (V rfl)) <| U (Xt (V rfl) (by decide)) <| U (Xt (V rfl) (by decide)) <| ?_
 refine U (Xt (V rfl) (by decide)) <| Al 4 zero26 rfl rfl <| StA (V rfl) rfl (V rfl) Sz24 <| StA (V rfl) rfl (V rfl) Sz26 <| U (As (V rfl)) <| Nt <| Sq <| Rt <| U (LBA (V rfl) rfl Ga24 Sz24 (by decide)) <| U (LBA (V rfl) rfl Ga26 Sz26 (by decide)) <| U (LBA (V rfl) rfl Ga26 Sz26 (by decide)) <| CT en56 (by exact ⟨⟨(Vi (g' := stG ((mkSt ((attSt fam5 ⟨0, 1⟩ false).1) 90).1)) (V rfl) ⟨Z, Ir⟩), rfl⟩, ⟨(Vi (g' := hdCell ⟨(attSt fam5 ⟨0, 1⟩ false).2.1.pl, (attSt fam5 ⟨0, 1⟩ false).2.1.use⟩) (V rfl) ⟨⟨Z, Ir⟩, Ir⟩), rfl⟩, ⟨(Vi (g' := hdCell ⟨(mkSt ((attSt fam5 ⟨0, 1⟩ false).1) 90).2.1.pl, (mkSt ((attSt fam5 ⟨0, 1⟩ false).1) 90).2.1.use⟩) (V rfl) ⟨⟨Z, Ir⟩, Ir⟩), rfl⟩, ⟨Vn, rfl⟩, Z⟩) (insert_ct ((mkSt ((attSt fam5 ⟨0, 1⟩ false).1) 90).1) (attSt fam5 ⟨0, 1⟩ false).2.1 (mkSt ((attSt fam5 ⟨0, 1⟩ false).1) 90).2.1 ([]) (kb_of (by decide +kernel))) <| U (Mv (V rfl)) <| U (Xt (V rfl) (by decide)) <| U (Xt (V rfl) (by decide)) <| StA (V rfl) rfl (V rfl) Sz24 <| U (As (V rfl)) <| Nt <| Sq <| Rt <| U (LBA (V rfl) rfl Ga24 Sz24 (by decide)) <| U (q_ixB (i := 0) (V rfl) K ta113 te113 (by rw [al113]; decide)) <| U (LBA (V rfl) rfl Ga26 Sz26 (by decide)) <| CT en21 (by exact ⟨⟨(Vi (g' := stG ((insSt ((mkSt ((attSt fam5 ⟨0, 1⟩ false).1) 90).1) (attSt fam5 ⟨0, 1⟩ false).2.1 (mkSt ((attSt fam5 ⟨0, 1⟩ false).1) 90).2.1 ([])).1)) (V rfl) ⟨Z, Ir⟩), rfl⟩, ⟨(Vi (g' := hdCell ⟨0, 1⟩) (V rfl) ⟨⟨Z, Ir⟩, Ir⟩), rfl⟩, Z⟩) (slotsF_ct ((insSt ((mkSt ((attSt fam5 ⟨0, 1⟩ false).1) 90).1) (attSt fam5 ⟨0, 1⟩ false).2.1 (mkSt ((attSt fam5 ⟨0, 1⟩ false).1) 90).2.1 ([])).1) ⟨0, 1⟩ (kb_of (by decide +kernel))) <| U (Mv (V rfl)) <| U (Xt (V rfl) (by decide)) <| U (Xt (V rfl) (by decide)) <| U (As (V rfl)) <| U (As (V rfl)) <| Nt <| Sq <| Rt <| U (LBA (V rfl) rfl Ga24 Sz24 (by decide)) <| U (q_ixB (i := 1) (V rfl) K ta113 te113 (by rw [al113]; decide)) <| U (LBA (V rfl) rfl Ga26 Sz26 (by decide)) <| CT en22 (by exact ⟨⟨(Vi (g' := stG ((insSt ((mkSt ((attSt fam5 ⟨0, 1⟩ false).1) 90).1) (attSt fam5 ⟨0, 1⟩ false).2.1 (mkSt ((attSt fam5 ⟨0, 1⟩ false).1) 90).2.1 ([])).1)) (V rfl) ⟨Z, Ir⟩), rfl⟩, ⟨(Vi (g' := hdCell ⟨1, 1⟩) (V rfl) ⟨⟨Z, Ir⟩, Ir⟩), rfl⟩, Z⟩) (givenF_ct ((insSt ((mkSt ((attSt fam5 ⟨0, 1⟩ false).1) 90).1) (attSt fam5 ⟨0, 1⟩ false).2.1 (mkSt ((attSt fam5 ⟨0, 1⟩ false).1) 90).2.1 ([])).1) ⟨1, 1⟩ (kb_of (by decide +kernel))) <| U (Mv (V rfl)) <| U (Xt (V rfl) (by decide)) <| U (Xt (V rfl) (by decide)) <| U (As (V rfl)) <| ?_
 refine U (As (V rfl)) <| Nt <| Sq <| Rt <| U (LBA (V rfl) rfl Ga24 Sz24 (by decide)) <| U (q_ixB (i := 0) (V rfl) K ta113 te113 (by rw [al113]; decide)) <| U (LBA (V rfl) rfl Ga26 Sz26 (by decide)) <| CT en23 (by exact ⟨⟨(Vi (g' := stG ((insSt ((mkSt ((attSt fam5 ⟨0, 1⟩ false).1) 90).1) (attSt fam5 ⟨0, 1⟩ false).2.1 (mkSt ((attSt fam5 ⟨0, 1⟩ false).1) 90).2.1 ([])).1)) (V rfl) ⟨Z, Ir⟩), rfl⟩, ⟨(Vi (g' := hdCell ⟨0, 1⟩) (V rfl) ⟨⟨Z, Ir⟩, Ir⟩), rfl⟩, Z⟩) (flatF_ct ((insSt ((mkSt ((attSt fam5 ⟨0, 1⟩ false).1) 90).1) (attSt fam5 ⟨0, 1⟩ false).2.1 (mkSt ((attSt fam5 ⟨0, 1⟩ false).1) 90).2.1 ([])).1) ⟨0, 1⟩ (kb_of (by decide +kernel))) <| U (Mv (V rfl)) <| U (Xt (V rfl) (by decide)) <| U (Xt (V rfl) (by decide)) <| U (As (V rfl)) <| U (As (V rfl)) <| Nt <| Sq <| Rt <| U (Mv (V rfl)) <| U (Mv (V rfl)) <| Ug (Gy rfl rfl) (fun hg => Mv (V rfl)) <| Ug (Gy rfl rfl) (fun hg => Ql (Vg (V rfl) hg) K) <| U (Qa (V rfl) (fun h => Vg (V rfl) h)) <| U (Mv (V rfl)) <| Ug (Gy rfl rfl) (fun hg => Mv (V rfl)) <| Ug (Gy rfl rfl) (fun hg => Ql (Vg (V rfl) hg) K) <| U (Qa (V rfl) (fun h => Vg (V rfl) h)) <| U (Mv (V rfl)) <| Ug (Gy rfl rfl) (fun hg => Mv (V rfl)) <| Ug (Gy rfl rfl) (fun hg => Ql (Vg (V rfl) hg) K) <| U (Qa (V rfl) (fun h => Vg (V rfl) h)) <| U (Mv (V rfl)) <| Ug (Gy rfl rfl) (fun hg => Mv (V rfl)) <| Ug (Gy rfl rfl) (fun hg => Ql (Vg (V rfl) hg) K) <| U (Qa (V rfl) (fun h => Vg (V rfl) h)) <| U (Mv (V rfl)) <| Ug (Gy rfl rfl) (fun hg => Mv (V rfl)) <| Ug (Gy rfl rfl) (fun hg => Ql (Vg (V rfl) hg) K) <| U (Qa (V rfl) (fun h => Vg (V rfl) h)) <| U (Mv (V rfl)) <| Ug (Gy rfl rfl) (fun hg => Mv (V rfl)) <| Ug (Gy rfl rfl) (fun hg => Ql (Vg (V rfl) hg) K) <| ?_
 exact U (Qa (V rfl) (fun h => Vg (V rfl) h)) <| U (Mv (V rfl)) <| Ug (Gy rfl rfl) (fun hg => Mv (V rfl)) <| Ug (Gy rfl rfl) (fun hg => Ln (Vg (V rfl) hg) ts27) <| Ug (Gy rfl rfl) (fun hg => Ql (Vg (V rfl) hg) K) <| U (Qa (V rfl) (fun h => Vg (V rfl) h)) <| U (Mv (V rfl)) <| Ug (Gy rfl rfl) (fun hg => Mv (V rfl)) <| Ug (Gy rfl rfl) (fun hg => Ix (Vg (V rfl) hg) K ts27 te27 (by have hgs := hg; try simp only [BL] at hgs; omega) (by have hgs := hg; try simp only [BL] at hgs; omega)) <| Ug (Gy rfl rfl) (fun hg => Fl _ _ (Vg (V rfl) hg) Un41 rfl 0 Sz33) <| Ug (Gy rfl rfl) (fun hg => Ld (Vg (V rfl) hg) Ga33 (by decide)) <| UwG (Gy rfl rfl) (fun hg => w_bs (n := 2) (zget := fun _ => iv 0) [(fun _ => iv (2)), (fun _ => iv (1))] (rowG inCell 0 [2, 1]) Un33 Sz3 zero3 (by decide) rfl (by decide) ⟨⟨rfl, .inr ⟨rfl, K, rfl⟩, rfl⟩, ⟨rfl, .inr ⟨rfl, K, rfl⟩, rfl⟩, Z⟩ ⟨⟨Z, ⟨Z, rfl⟩⟩, ⟨Z, rfl⟩⟩) <| CTg (Gy rfl rfl) en26 (fun hg => (by exact ⟨⟨(Vg (V rfl) hg), rfl⟩, ⟨(Vg (V rfl) hg), rfl⟩, Z⟩)) (fun hg => equal_ct ((((slotsSt ((insSt ((mkSt ((attSt fam5 ⟨0, 1⟩ false).1) 90).1) (attSt fam5 ⟨0, 1⟩ false).2.1 (mkSt ((attSt fam5 ⟨0, 1⟩ false).1) 90).2.1 ([])).1) ⟨0, 1⟩).1).getD 0 default).given) ([2, 1])) <| U (Qa (V rfl) (fun h => Vg (V rfl) h)) <| U (Mv (V rfl)) <| Ug (Gy rfl rfl) (fun hg => Mv (V rfl)) <| Ug (Gy rfl rfl) (fun hg => FlB _ _ (V rfl) Un26 rfl 0 Sz3) <| Ug (Gy rfl rfl) (fun hg => LdB (Vg (V rfl) hg) rfl Ga3 (by decide)) <| Ug (Gy rfl rfl) (fun hg => Ql (Vg (V rfl) hg) (Vg (V rfl) hg)) <| U (Qa (V rfl) (fun h => Vg (V rfl) h)) <| U (Mv (V rfl)) <| Ug (Gy rfl rfl) (fun hg => Mv (V rfl)) <| Ug (Gy rfl rfl) (fun hg => FlB _ _ (V rfl) Un26 rfl 0 Sz3) <| Ug (Gy rfl rfl) (fun hg => LdB (Vg (V rfl) hg) rfl Ga3 (by decide)) <| UwG (Gy rfl rfl) (fun hg => w_bs (n := 4) (zget := fun _ => iv 0) [(fun _ => iv (0)), (fun _ => iv ((mkSt ((attSt fam5 ⟨0, 1⟩ false).1) 90).2.1.pl)), (fun _ => iv (2)), (fun _ => iv (1))] (rowG inCell 0 [0, (mkSt ((attSt fam5 ⟨0, 1⟩ false).1) 90).2.1.pl, 2, 1]) Un33 Sz3 zero3 (by decide) rfl (by decide) ⟨⟨rfl, .inr ⟨rfl, K, rfl⟩, rfl⟩, ⟨rfl, .inr ⟨rfl, (Vg (V rfl) hg), rfl⟩, rfl⟩, ⟨rfl, .inr ⟨rfl, K, rfl⟩, rfl⟩, ⟨rfl, .inr ⟨rfl, K, rfl⟩, rfl⟩, Z⟩ ⟨⟨⟨⟨Z, ⟨Z, rfl⟩⟩, ⟨Z, rfl⟩⟩, ⟨Z, rfl⟩⟩, ⟨Z, rfl⟩⟩) <| CTg (Gy rfl rfl) en26 (fun hg => (by exact ⟨⟨(Vg (V rfl) hg), rfl⟩, ⟨(Vg (V rfl) hg), rfl⟩, Z⟩)) (fun hg => equal_ct ((flatSt ((insSt ((mkSt ((attSt fam5 ⟨0, 1⟩ false).1) 90).1) (attSt fam5 ⟨0, 1⟩ false).2.1 (mkSt ((attSt fam5 ⟨0, 1⟩ false).1) 90).2.1 ([])).1) ⟨0, 1⟩).1) ([0, (mkSt ((attSt fam5 ⟨0, 1⟩ false).1) 90).2.1.pl, 2, 1])) <| U (Qa (V rfl) (fun h => Vg (V rfl) h)) <| U (As (V rfl)) <| Nt <| Rx <| R1 rfl (V rfl) rfl (by show bv ((((((((((true && (decide ((attSt fam5 ⟨0, 1⟩ false).2.2 = 0))) && (decide ((mkSt ((attSt fam5 ⟨0, 1⟩ false).1) 90).2.2 = 0))) && (decide ((insSt ((mkSt ((attSt fam5 ⟨0, 1⟩ false).1) 90).1) (attSt fam5 ⟨0, 1⟩ false).2.1 (mkSt ((attSt fam5 ⟨0, 1⟩ false).1) 90).2.1 ([])).2 = 0))) && (decide ((slotsSt ((insSt ((mkSt ((attSt fam5 ⟨0, 1⟩ false).1) 90).1) (attSt fam5 ⟨0, 1⟩ false).2.1 (mkSt ((attSt fam5 ⟨0, 1⟩ false).1) 90).2.1 ([])).1) ⟨0, 1⟩).2 = 0))) && (decide ((givenSt ((insSt ((mkSt ((attSt fam5 ⟨0, 1⟩ false).1) 90).1) (attSt fam5 ⟨0, 1⟩ false).2.1 (mkSt ((attSt fam5 ⟨0, 1⟩ false).1) 90).2.1 ([])).1) ⟨1, 1⟩).2 = 0))) && (decide ((flatSt ((insSt ((mkSt ((attSt fam5 ⟨0, 1⟩ false).1) 90).1) (attSt fam5 ⟨0, 1⟩ false).2.1 (mkSt ((attSt fam5 ⟨0, 1⟩ false).1) 90).2.1 ([])).1) ⟨0, 1⟩).2 = 0))) && (decide ((((slotsSt ((insSt ((mkSt ((attSt fam5 ⟨0, 1⟩ false).1) 90).1) (attSt fam5 ⟨0, 1⟩ false).2.1 (mkSt ((attSt fam5 ⟨0, 1⟩ false).1) 90).2.1 ([])).1) ⟨0, 1⟩).1).length : Int) = 1))) && (eqInt ((((slotsSt ((insSt ((mkSt ((attSt fam5 ⟨0, 1⟩ false).1) 90).1) (attSt fam5 ⟨0, 1⟩ false).2.1 (mkSt ((attSt fam5 ⟨0, 1⟩ false).1) 90).2.1 ([])).1) ⟨0, 1⟩).1).getD 0 default).given) ([2, 1]))) && (decide ((givenSt ((insSt ((mkSt ((attSt fam5 ⟨0, 1⟩ false).1) 90).1) (attSt fam5 ⟨0, 1⟩ false).2.1 (mkSt ((attSt fam5 ⟨0, 1⟩ false).1) 90).2.1 ([])).1) ⟨1, 1⟩).1 = (mkSt ((attSt fam5 ⟨0, 1⟩ false).1) 90).2.1.pl))) && (eqInt ((flatSt ((insSt ((mkSt ((attSt fam5 ⟨0, 1⟩ false).1) 90).1) (attSt fam5 ⟨0, 1⟩ false).2.1 (mkSt ((attSt fam5 ⟨0, 1⟩ false).1) 90).2.1 ([])).1) ⟨0, 1⟩).1) ([0, (mkSt ((attSt fam5 ⟨0, 1⟩ false).1) 90).2.1.pl, 2, 1]))) = bv true; exact congrArg bv (by decide +kernel))
theorem slotOnce_ct (l : List Nd) (h : Hd) (hb : ∀ n ∈ l, n.kids.length ≤ 17592186043904) : Ct Try.prog 17 [SV.agg 1 (stG l), SV.agg 2 (hdCell h)] (bv true) := by
 refine CtO 157 Try.func17 rfl rfl rfl fun E => row_lenA 0 (V (s := 0) rfl) rfl rfl fun hl0_0 => Sq <| Rt <| BxA 1 (V rfl) rfl rfl <| BxA 2 (V rfl) rfl rfl <| U (As K) <| Nt <| Sq <| Rt <| U (LBA (V rfl) rfl Ga24 Sz24 (by decide)) <| U (LBA (V rfl) rfl Ga26 Sz26 (by decide)) <| CT en23 (by exact ⟨⟨(Vi (g' := stG l) (V rfl) ⟨Z, Ir⟩), rfl⟩, ⟨(Vi (g' := hdCell ⟨h.pl, h.use⟩) (V rfl) ⟨⟨Z, Ir⟩, Ir⟩), rfl⟩, Z⟩) (flatF_ct l h (by first | assumption | exact kb_nil | exact kb_of (by assumption) | exact kb_of fam_c5)) <| U (Mv (V rfl)) <| U (Xt (V rfl) (by decide)) <| U (Xt (V rfl) (by decide)) <| U (As (V rfl)) <| U (As (V rfl)) <| Nt <| Sq <| Sq <| Rq <| CQ en25 (by exact Z) (placed_ct) <| O (Qo (V rfl)) <| O (Mv (V rfl)) <| Og (Gn rfl rfl) (fun hg => Mv (V rfl)) <| Og (Gn rfl rfl) (fun hg => Qn (Vg (V rfl) hg) K) <| O (Qr (V rfl) (fun h => Vg (V rfl) (notT h))) <| Nq <| Cd (V rfl) (fun hc1 => ?_) (fun hc1 => ?_)
 ·have hc1s := hc1; try simp only [BL] at hc1s
  exact Sq <| Rq <| CQ en25 (by exact Z) (placed_ct) <| O (As (V rfl)) <| Nq <| Rx <| R1 rfl (V rfl) rfl (by show bv (true) = bv true; rfl)
 ·have hc1s := hc1; try simp only [BL] at hc1s
  have hfo : (flatSt l h).2 = 0 := by simpa using hc1
  have hf0 := (flat_ok hfo).1
  have hfe := (flat_ok hfo).2
  have hc0 := (first1 hf0).1
  have hpl := (first1 hf0).2.2.1
  have hus := (first1 hf0).2.2.2
  have h24 := checkSt_len hc0
  have hpl25 := line_len25 hc0 h.pl
  have hfl24 := flat_len2 hc0 hpl
  have hsl24 := slotsK_len2 hc0 h.pl
  refine Sk <| Sq <| Weak.c (S' := ⟨[(2, SV.bp 1 0), (3, SV.bp 2 0), (5, inRow ((flatP l h.pl)))], [(1, Own.box 1 (stG l) 24), (2, Own.box 2 (hdCell h) 26)]⟩) (We (sl := [(2, SV.bp 1 0), (3, SV.bp 2 0), (5, inRow ((flatP l h.pl)))]) (ow := [(1, Own.box 1 (stG l) 24), (2, Own.box 2 (hdCell h) 26)]) (by exact ⟨V rfl, V rfl, val_eq (V rfl) (congrArg inRow hfe), Z⟩) (by exact ⟨⟨_, rfl, rfl, rfl, (An rfl)⟩, ⟨_, rfl, rfl, rfl, (An rfl)⟩, Z⟩)) <| Rq <| O (FlB _ _ (V rfl) Un26 rfl 0 Sz3) <| O (LdB (V rfl) rfl Ga3 (by decide)) <| O (As (V rfl)) <| Nq <| Sq <| Sq <| Rt <| U (LBA (V rfl) rfl Ga24 Sz24 (by decide)) <| U (FlB _ _ (V rfl) Un26 rfl 0 Sz3) <| U (LdB (V rfl) rfl Ga3 (by decide)) <| CT en80 (by exact ⟨⟨(Vi (g' := stG l) (V rfl) ⟨Z, Ir⟩), rfl⟩, ⟨(V rfl), rfl⟩, Z⟩) (line_ct l h.pl (by first | assumption | omega)) <| U (Ln (V rfl) ts33) <| U (Mv K) <| Nt <| Bo <| Lo (fun (i : Nat) => ⟨[(2, SV.bp 1 0), (3, SV.bp 2 0), (5, inRow ((flatP l h.pl))), (7, iv (((line l h.pl).take i).foldl (hostF l) h.pl)), (39, inRow (line l h.pl)), (40, iv (((line l h.pl).length : Int))), (41, iv ((i : Int)))], [(1, Own.box 1 (stG l) 24), (2, Own.box 2 (hdCell h) 26)]⟩) (fun (i : Nat) => i ≤ (line l h.pl).length) (fun (i : Nat) => (line l h.pl).length - i) 0 (by show 0 ≤ (line l h.pl).length; exact Nat.zero_le _) (We (sl := [(2, SV.bp 1 0), (3, SV.bp 2 0), (5, inRow ((flatP l h.pl))), (7, iv (((line l h.pl).take 0).foldl (hostF l) h.pl)), (39, inRow (line l h.pl)), (40, iv (((line l h.pl).length : Int))), (41, iv ((0 : Int)))]) (ow := [(1, Own.box 1 (stG l) 24), (2, Own.box 2 (hdCell h) 26)]) (by exact ⟨V rfl, V rfl, V rfl, val_eq (V rfl) rfl, V rfl, V rfl, V rfl, Z⟩) (by exact ⟨⟨_, rfl, rfl, rfl, (An rfl)⟩, ⟨_, rfl, rfl, rfl, (An rfl)⟩, Z⟩)) <| ?_
  ·rintro i hI1
   have hJ1 : i ≤ (line l h.pl).length := hI1
   have hil := hJ1
   refine Sq <| Rq <| O (Lt (V rfl) (V rfl)) <| Nq <| Sq <| Cd (V rfl) (fun hc2 => ?_) (fun hc2 => ?_)
   ·have hc2s := hc2; try simp only [BL] at hc2s
    have hln := line_in (mem_getD (d := 0) (show i < (line l h.pl).length by omega))
    refine Sk <| Sq <| Bo <| Sq <| Rq <| O (IxN (i := i) (V rfl) (V rfl) ts33 te33 (by omega)) <| O (Ld (V rfl) Ga3 (by decide)) <| O (As (V rfl)) <| Nq <| Sq <| Rq <| O (FlB _ _ (V rfl) Un24 rfl 0 Sz22) <| O (LdB (V rfl) rfl Ga22 (by decide)) <| O (Mv (V rfl)) <| O (Ix (V rfl) (V rfl) ts22 te22 (by omega) (by omega)) <| O (Fl _ _ (V rfl) Un61 rfl 0 Sz3) <| O (Ld (V rfl) Ga3 (by decide)) <| O (Ge (V rfl) K) <| Nq <| Cd (V rfl) (fun hc3 => ?_) (fun hc3 => ?_)
    ·have hc3s := hc3; try simp only [BL] at hc3s
     refine Rq <| O (FlB _ _ (V rfl) Un24 rfl 0 Sz22) <| O (LdB (V rfl) rfl Ga22 (by decide)) <| O (Mv (V rfl)) <| O (Ix (V rfl) (V rfl) ts22 te22 (by omega) (by omega)) <| O (Fl _ _ (V rfl) Un61 rfl 0 Sz3) <| O (Ld (V rfl) Ga3 (by decide)) <| O (As (V rfl)) <| Nq <| Rq <| O (Ad (V rfl) K (by omega)) <| O (Mv (V rfl)) <| Nq <| Nx (i + 1) (by show (i + 1) ≤ (line l h.pl).length; first | omega | (simp; done) | (refine ⟨?_, ?_⟩ <;> first | omega | (simp; done))) (by show (line l h.pl).length - (i + 1) < (line l h.pl).length - i; omega) (We (sl := [(2, SV.bp 1 0), (3, SV.bp 2 0), (5, inRow ((flatP l h.pl))), (7, iv (((line l h.pl).take ((i + 1))).foldl (hostF l) h.pl)), (39, inRow (line l h.pl)), (40, iv (((line l h.pl).length : Int))), (41, iv (((i + 1) : Int)))]) (ow := [(1, Own.box 1 (stG l) 24), (2, Own.box 2 (hdCell h) 26)]) (by exact ⟨V rfl, V rfl, V rfl, val_eq (V rfl) (congrArg iv (by rw [foldl_take_s _ _ 0 _ _ (by omega), hostF, if_pos hc3s])), V rfl, V rfl, V rfl, Z⟩) (by exact ⟨⟨_, rfl, rfl, rfl, (An rfl)⟩, ⟨_, rfl, rfl, rfl, (An rfl)⟩, Z⟩))
    ·have hc3s := hc3; try simp only [BL] at hc3s
     refine Sk <| Rq <| O (Ad (V rfl) K (by omega)) <| O (Mv (V rfl)) <| Nq <| Nx (i + 1) (by show (i + 1) ≤ (line l h.pl).length; first | omega | (simp; done) | (refine ⟨?_, ?_⟩ <;> first | omega | (simp; done))) (by show (line l h.pl).length - (i + 1) < (line l h.pl).length - i; omega) (We (sl := [(2, SV.bp 1 0), (3, SV.bp 2 0), (5, inRow ((flatP l h.pl))), (7, iv (((line l h.pl).take ((i + 1))).foldl (hostF l) h.pl)), (39, inRow (line l h.pl)), (40, iv (((line l h.pl).length : Int))), (41, iv (((i + 1) : Int)))]) (ow := [(1, Own.box 1 (stG l) 24), (2, Own.box 2 (hdCell h) 26)]) (by exact ⟨V rfl, V rfl, V rfl, val_eq (V rfl) (congrArg iv (by rw [foldl_take_s _ _ 0 _ _ (by omega), hostF, if_neg hc3s])), V rfl, V rfl, V rfl, Z⟩) (by exact ⟨⟨_, rfl, rfl, rfl, (An rfl)⟩, ⟨_, rfl, rfl, rfl, (An rfl)⟩, Z⟩))
   ·have hc2s := hc2; try simp only [BL] at hc2s
    refine Ex <| Sq <| Weak.c (S' := ⟨[(2, SV.bp 1 0), (3, SV.bp 2 0), (5, inRow ((flatP l h.pl))), (7, iv (hostS l h.pl))], [(1, Own.box 1 (stG l) 24), (2, Own.box 2 (hdCell h) 26)]⟩) (We (sl := [(2, SV.bp 1 0), (3, SV.bp 2 0), (5, inRow ((flatP l h.pl))), (7, iv (hostS l h.pl))]) (ow := [(1, Own.box 1 (stG l) 24), (2, Own.box 2 (hdCell h) 26)]) (by exact ⟨V rfl, V rfl, V rfl, val_eq (V rfl) (congrArg iv (by rw [List.take_of_length_le (by omega)]; rfl)), Z⟩) (by exact ⟨⟨_, rfl, rfl, rfl, (An rfl)⟩, ⟨_, rfl, rfl, rfl, (An rfl)⟩, Z⟩)) <| Rt <| t_makeMap 3 rfl <| U (As (V rfl)) <| Nt <| Sq <| Sq <| Rq <| O (Mv (V rfl)) <| O (Ln (V rfl) ts33) <| O (Mv K) <| Nq <| Bo <| c_mv 3 60 rfl rfl <| c_mapE 60 (bmap (seenK ((flatP l h.pl).take 0))) rfl (by rfl) <| Lo (fun (i : Nat) => ⟨[(2, SV.bp 1 0), (3, SV.bp 2 0), (5, inRow ((flatP l h.pl))), (7, iv (hostS l h.pl)), (10, SV.own 60), (60, inRow ((flatP l h.pl))), (61, iv ((((flatP l h.pl)).length : Int))), (62, iv ((i : Int)))], [(1, Own.box 1 (fun zt => SV.renm (mvN 3 60) ((stG l) zt)) 24), (2, Own.box 2 (fun zt => SV.renm (mvN 3 60) ((hdCell h) zt)) 26), (60, Own.amap (bmap (seenK ((flatP l h.pl).take i))))]⟩) (fun (i : Nat) => i ≤ (flatP l h.pl).length) (fun (i : Nat) => (flatP l h.pl).length - i) 0 (by show 0 ≤ (flatP l h.pl).length; exact Nat.zero_le _) (We (ow := [(1, Own.box 1 (fun zt => SV.renm (mvN 3 60) ((stG l) zt)) 24), (2, Own.box 2 (fun zt => SV.renm (mvN 3 60) ((hdCell h) zt)) 26), (60, Own.amap (bmap (seenK ((flatP l h.pl).take 0))))]) (Vs rfl) (by exact ⟨⟨_, rfl, rfl, rfl, (An rfl)⟩, ⟨_, rfl, rfl, rfl, (An rfl)⟩, ⟨_, rfl, rfl⟩, Z⟩)) <| ?_
    ·rintro i hI2
     have hJ2 : i ≤ (flatP l h.pl).length := hI2
     have hil := hJ2
     refine Sq <| Rq <| O (Lt (V rfl) (V rfl)) <| Nq <| Sq <| Cd (V rfl) (fun hc4 => ?_) (fun hc4 => ?_)
     ·have hc4s := hc4; try simp only [BL] at hc4s
      have hfi := flat_in hc0 hpl (mem_getD (d := 0) (show i < (flatP l h.pl).length by omega))
      refine Sk <| Sq <| Bo <| Sq <| Rq <| O (IxN (i := i) (V rfl) (V rfl) ts33 te33 (by omega)) <| O (Ld (V rfl) Ga3 (by decide)) <| O (As (V rfl)) <| Nq <| Sq <| Sq <| Rt <| U (Mv (V rfl)) <| U (Mv (V rfl)) <| U (q_lookB1 (l := seenK ((flatP l h.pl).take i)) Un49 Un3 (fun w => Try.zeroValue4 w) (V rfl) rfl (V rfl)) <| U (Mv (V rfl)) <| Ug (Gn rfl rfl) (fun hg => LBA (V rfl) rfl Ga24 Sz24 (by decide)) <| Ug (Gn rfl rfl) (fun hg => Mv (V rfl)) <| CTg (Gn rfl rfl) en37 (fun hg => (by exact ⟨⟨(Vi (g' := stG l) (Vg (V rfl) hg) ⟨Z, Ir⟩), rfl⟩, ⟨(Vg (V rfl) hg), rfl⟩, Z⟩)) (fun hg => used_ct l ((((flatP l h.pl)).getD i 0))) <| Ug (Gn rfl rfl) (fun hg => Qo (Vg (V rfl) hg)) <| U (Qr (V rfl) (fun h => Vg (V rfl) (notT h))) <| U (Mv (V rfl)) <| Ug (Gn rfl rfl) (fun hg => LBA (V rfl) rfl Ga24 Sz24 (by decide)) <| Ug (Gn rfl rfl) (fun hg => Mv (V rfl)) <| CTg (Gn rfl rfl) en80 (fun hg => (by exact ⟨⟨(Vi (g' := stG l) (Vg (V rfl) hg) ⟨Z, Ir⟩), rfl⟩, ⟨(Vg (V rfl) hg), rfl⟩, Z⟩)) (fun hg => line_ct l ((((flatP l h.pl)).getD i 0)) (by first | assumption | omega)) <| Ug (Gn rfl rfl) (fun hg => Mv (V rfl)) <| CTg (Gn rfl rfl) en36 (fun hg => (by exact ⟨⟨(Vg (V rfl) hg), rfl⟩, ⟨(Vg (V rfl) hg), rfl⟩, Z⟩)) (fun hg => contains_ct (line l ((((flatP l h.pl)).getD i 0))) (hostS l h.pl)) <| Ug (Gn rfl rfl) (fun hg => Qo (Vg (V rfl) hg)) <| U (Qr (V rfl) (fun h => Vg (V rfl) (notT h))) <| Nt <| Cd (V rfl) (fun hc5 => ?_) (fun hc5 => ?_)
      ·have hc5s := hc5; try simp only [BL] at hc5s
       exact absurd hc5 (ff (once_1 hc0 hpl hus (by omega)))
       --done
      ·have hc5s := hc5; try simp only [BL] at hc5s
       refine Sk <| Rt <| U (Mv (V rfl)) <| U (Mv (V rfl)) <| t_putB (l := seenK ((flatP l h.pl).take i)) (.inr rfl) Un49 Un3 (V rfl) rfl (V rfl) K <| Nt <| Rq <| O (Ad (V rfl) K (by omega)) <| O (Mv (V rfl)) <| Nq <| k_mapE 60 (bmap (seenK ((flatP l h.pl).take ((i + 1))))) rfl (by rw [seenK_s (by omega)]) <| Nx (i + 1) (by show (i + 1) ≤ (flatP l h.pl).length; first | omega | (simp; done) | (refine ⟨?_, ?_⟩ <;> first | omega | (simp; done))) (by show (flatP l h.pl).length - (i + 1) < (flatP l h.pl).length - i; omega) (We (ow := [(1, Own.box 1 (fun zt => SV.renm (mvN 3 60) ((stG l) zt)) 24), (2, Own.box 2 (fun zt => SV.renm (mvN 3 60) ((hdCell h) zt)) 26), (60, Own.amap (bmap (seenK ((flatP l h.pl).take ((i + 1))))))]) (Vs rfl) (by exact ⟨⟨_, rfl, rfl, rfl, (An rfl)⟩, ⟨_, rfl, rfl, rfl, (An rfl)⟩, ⟨_, rfl, rfl⟩, Z⟩))
     ·have hc4s := hc4; try simp only [BL] at hc4s
      refine Ex <| Sq <| Rt <| U (LBA (V rfl) rfl Ga24 Sz24 (by decide)) <| U (LBA (V rfl) rfl Ga26 Sz26 (by decide)) <| CT en21 (by exact ⟨⟨(Vi (g' := stG l) (V rfl) ⟨Z, Ir⟩), rfl⟩, ⟨(Vi (g' := hdCell ⟨h.pl, h.use⟩) (V rfl) ⟨⟨Z, Ir⟩, Ir⟩), rfl⟩, Z⟩) (slotsF_ct l h (by first | assumption | exact kb_nil | exact kb_of (by assumption) | exact kb_of fam_c5)) <| U (Mv (V rfl)) <| U (Xt (V rfl) (by decide)) <| U (Xt (V rfl) (by decide)) <| U (As (V rfl)) <| U (As (V rfl)) <| Nt <| Sq <| Weak.c (S' := ⟨[(2, SV.bp 1 0), (3, SV.bp 2 0), (5, inRow ((flatP l h.pl))), (6, iv (0)), (13, slRow ((slotsK l h.pl)))], [(1, Own.box 1 (fun zt => SV.renm (mvN 3 60) ((stG l) zt)) 24), (2, Own.box 2 (fun zt => SV.renm (mvN 3 60) ((hdCell h) zt)) 26)]⟩) (We (sl := [(2, SV.bp 1 0), (3, SV.bp 2 0), (5, inRow ((flatP l h.pl))), (6, iv (0)), (13, slRow ((slotsK l h.pl)))]) (ow := [(1, Own.box 1 (fun zt => SV.renm (mvN 3 60) ((stG l) zt)) 24), (2, Own.box 2 (fun zt => SV.renm (mvN 3 60) ((hdCell h) zt)) 26)]) (by exact ⟨V rfl, V rfl, V rfl, val_eq (V rfl) (congrArg (fun q => iv q.2) (slots_2 hf0)), val_eq (V rfl) (congrArg (fun q => slRow q.1) (slots_2 hf0)), Z⟩) (by exact ⟨⟨_, rfl, rfl, rfl, (An rfl)⟩, ⟨_, rfl, rfl, rfl, (An rfl)⟩, Z⟩)) <| Rt <| t_makeMap 4 rfl <| U (As (V rfl)) <| Nt <| Sq <| Sq <| Rq <| O (Mv (V rfl)) <| O (Ln (V rfl) ts27) <| O (Mv K) <| Nq <| Bo <| c_mv 4 61 rfl rfl <| c_mapE 61 (bmap (seenK (gvnL (slotsK l h.pl) 0 0))) rfl (by rw [gvn_0]; rfl) <| Lo (fun (i : Nat) => ⟨[(2, SV.bp 1 0), (3, SV.bp 2 0), (5, inRow ((flatP l h.pl))), (6, iv (0)), (14, SV.own 61), (93, slRow ((slotsK l h.pl))), (94, iv ((((slotsK l h.pl)).length : Int))), (95, iv ((i : Int)))], [(1, Own.box 1 (fun zt => SV.renm (mvN 4 61) ((fun zt => SV.renm (mvN 3 60) ((stG l) zt)) zt)) 24), (2, Own.box 2 (fun zt => SV.renm (mvN 4 61) ((fun zt => SV.renm (mvN 3 60) ((hdCell h) zt)) zt)) 26), (61, Own.amap (bmap (seenK (gvnL (slotsK l h.pl) i 0))))]⟩) (fun (i : Nat) => i ≤ (slotsK l h.pl).length) (fun (i : Nat) => (slotsK l h.pl).length - i) 0 (by show 0 ≤ (slotsK l h.pl).length; exact Nat.zero_le _) (We (ow := [(1, Own.box 1 (fun zt => SV.renm (mvN 4 61) ((fun zt => SV.renm (mvN 3 60) ((stG l) zt)) zt)) 24), (2, Own.box 2 (fun zt => SV.renm (mvN 4 61) ((fun zt => SV.renm (mvN 3 60) ((hdCell h) zt)) zt)) 26), (61, Own.amap (bmap (seenK (gvnL (slotsK l h.pl) 0 0))))]) (Vs rfl) (by exact ⟨⟨_, rfl, rfl, rfl, (An rfl)⟩, ⟨_, rfl, rfl, rfl, (An rfl)⟩, ⟨_, rfl, rfl⟩, Z⟩)) <| ?_
      ·rintro i hI3
       have hJ3 : i ≤ (slotsK l h.pl).length := hI3
       have hil := hJ3
       refine Sq <| Rq <| O (Lt (V rfl) (V rfl)) <| Nq <| Sq <| Cd (V rfl) (fun hc6 => ?_) (fun hc6 => ?_)
       ·have hc6s := hc6; try simp only [BL] at hc6s
        have hgl24 := given_len hc0 hpl (i := i) (by omega)
        refine Sk <| Sq <| Bo <| Sq <| Rt <| U (IxN (i := i) (V rfl) (V rfl) ts27 te27 (by omega)) <| U (LdA (V rfl) Ga41 Sz41 (by decide)) <| Al 5 zero41 rfl rfl <| StA (V rfl) rfl (V rfl) Sz41 <| Nt <| Sq <| Rq <| O (FlB _ _ (V rfl) Un41 rfl 0 Sz33) <| O (LdB (V rfl) rfl Ga33 (by decide)) <| O (Ln (V rfl) ts33) <| O (Mv K) <| Nq <| Bo <| c_mv 61 62 rfl rfl <| Lo (fun (j : Nat) => ⟨[(2, SV.bp 1 0), (3, SV.bp 2 0), (5, inRow ((flatP l h.pl))), (6, iv (0)), (14, SV.own 62), (16, SV.bp 5 0), (93, slRow ((slotsK l h.pl))), (94, iv ((((slotsK l h.pl)).length : Int))), (95, iv ((i : Int))), (100, inRow ((((slotsK l h.pl)).getD i default).given)), (101, iv ((((((slotsK l h.pl)).getD i default).given).length : Int))), (102, iv ((j : Int)))], [(1, Own.box 1 (fun zt => SV.renm (mvN 61 62) ((fun zt => SV.renm (mvN 4 61) ((fun zt => SV.renm (mvN 3 60) ((stG l) zt)) zt)) zt)) 24), (2, Own.box 2 (fun zt => SV.renm (mvN 61 62) ((fun zt => SV.renm (mvN 4 61) ((fun zt => SV.renm (mvN 3 60) ((hdCell h) zt)) zt)) zt)) 26), (5, Own.box 3 (fun zt => SV.renm (mvN 61 62) ((fun zi => (rowG slCell default ((slotsK l h.pl))) i (0 + zi)) zt)) 41), (62, Own.amap (bmap (seenK (gvnL (slotsK l h.pl) i j))))]⟩) (fun (j : Nat) => j ≤ ((slotsK l h.pl).getD i default).given.length) (fun (j : Nat) => ((slotsK l h.pl).getD i default).given.length - j) 0 (by show 0 ≤ ((slotsK l h.pl).getD i default).given.length; exact Nat.zero_le _) (We (ow := [(1, Own.box 1 (fun zt => SV.renm (mvN 61 62) ((fun zt => SV.renm (mvN 4 61) ((fun zt => SV.renm (mvN 3 60) ((stG l) zt)) zt)) zt)) 24), (2, Own.box 2 (fun zt => SV.renm (mvN 61 62) ((fun zt => SV.renm (mvN 4 61) ((fun zt => SV.renm (mvN 3 60) ((hdCell h) zt)) zt)) zt)) 26), (5, Own.box 3 (fun zt => SV.renm (mvN 61 62) ((fun zi => (rowG slCell default ((slotsK l h.pl))) i (0 + zi)) zt)) 41), (62, Own.amap (bmap (seenK (gvnL (slotsK l h.pl) i 0))))]) (Vs rfl) (by exact ⟨⟨_, rfl, rfl, rfl, (An rfl)⟩, ⟨_, rfl, rfl, rfl, (An rfl)⟩, ⟨_, rfl, rfl, rfl, (An rfl)⟩, ⟨_, rfl, rfl⟩, Z⟩)) <| ?_
        ·rintro j hI4
         have hJ4 : j ≤ ((slotsK l h.pl).getD i default).given.length := hI4
         have hjl := hJ4
         refine Sq <| Rq <| O (Lt (V rfl) (V rfl)) <| Nq <| Sq <| Cd (V rfl) (fun hc7 => ?_) (fun hc7 => ?_)
         ·have hc7s := hc7; try simp only [BL] at hc7s
          have hon := once_3 hc0 hpl (i := i) (j := j) (by omega) (by omega)
          have hor := hon.1
          refine Sk <| Sq <| Bo <| Sq <| Rq <| O (IxN (i := j) (V rfl) (V rfl) ts33 te33 (by omega)) <| O (Ld (V rfl) Ga3 (by decide)) <| O (As (V rfl)) <| Nq <| Sq <| Rg [107, 108, 109, 110, 111, 112, 113, 114, 115, 116, 106, 117, 118, 19, 20] (by kernel_rfl) (by kernel_rfl) (by kernel_rfl) <| Gp (Gq (LBA (V rfl) rfl Ga24 Sz24 (by decide))) <| Gp (Gq (Mv (V rfl))) <| Gp (Gq (FlB _ _ (V rfl) Un24 rfl 0 Sz22)) <| Gp (Gq (LdB (V rfl) rfl Ga22 (by decide))) <| Gp (Gq (Mv (V rfl))) <| Gp (Gq (Ix (V rfl) (V rfl) ts22 te22 (by omega) (by omega))) <| Gp (Gq (Fl _ _ (V rfl) Un61 rfl 0 Sz3)) <| Gp (Gq (Ld (V rfl) Ga3 (by decide))) <| Gp (Gq (Bu [(0, iv ((((((slotsK l h.pl)).getD i default).given).getD j 0))), (1, iv ((l.getD (Int.toNat ((((((slotsK l h.pl)).getD i default).given).getD j 0))) default).uses))] id (hdCell ⟨(((((slotsK l h.pl)).getD i default).given).getD j 0), (l.getD (Int.toNat ((((((slotsK l h.pl)).getD i default).given).getD j 0))) default).uses⟩) zero26 build26 (by exact ⟨⟨rfl, (V rfl), rfl⟩, ⟨rfl, (V rfl), rfl⟩, Z⟩) (by decide) ⟨⟨Z, rfl⟩, rfl⟩)) <| Gp (Gc en22 (by exact ⟨⟨(Vi (g' := stG l) (V rfl) ⟨Z, Ir⟩), rfl⟩, ⟨(V rfl), rfl⟩, Z⟩) (givenF_ct l ⟨(((((slotsK l h.pl)).getD i default).given).getD j 0), (l.getD (Int.toNat ((((((slotsK l h.pl)).getD i default).given).getD j 0))) default).uses⟩ (by first | assumption | exact kb_nil | exact kb_of (by assumption) | exact kb_of fam_c5))) <| Gp (Gq (Mv (V rfl))) <| Gp (Gq (Xt (V rfl) (by decide))) <| Gp (Gq (Xt (V rfl) (by decide))) <| Gp (Gq (As (V rfl))) <| Gp (Gq (As (V rfl))) <| Gz <| Sq <| Sq <| Rqd (by kernel_rfl) (by kernel_rfl) <| O (Mv (V rfl)) <| O (Mv (V rfl)) <| O (q_lookB1 (l := seenK (gvnL (slotsK l h.pl) i j)) Un49 Un3 (fun w => Try.zeroValue4 w) (V rfl) rfl (V rfl)) <| O (Mv (V rfl)) <| Og (Gn rfl rfl) (fun hg => Mv (V rfl)) <| Og (Gn rfl rfl) (fun hg => Qn (Vg (V rfl) hg) K) <| O (Qr (V rfl) (fun h => Vg (V rfl) (notT h))) <| O (Mv (V rfl)) <| Og (Gn rfl rfl) (fun hg => Mv (V rfl)) <| Og (Gn rfl rfl) (fun hg => FlB _ _ (V rfl) Un41 rfl 0 Sz3) <| ?_
          refine Og (Gn rfl rfl) (fun hg => LdB (Vg (V rfl) hg) rfl Ga3 (by decide)) <| Og (Gn rfl rfl) (fun hg => Qn (Vg (V rfl) hg) (Vg (V rfl) hg)) <| O (Qr (V rfl) (fun h => Vg (V rfl) (notT h))) <| O (Mv (V rfl)) <| Og (Gn rfl rfl) (fun hg => FlB _ _ (V rfl) Un24 rfl 0 Sz22) <| Og (Gn rfl rfl) (fun hg => LdB (Vg (V rfl) hg) rfl Ga22 (by decide)) <| Og (Gn rfl rfl) (fun hg => Mv (V rfl)) <| Og (Gn rfl rfl) (fun hg => Ix (Vg (V rfl) hg) (Vg (V rfl) hg) ts22 te22 (by omega) (by omega)) <| Og (Gn rfl rfl) (fun hg => Fl _ _ (Vg (V rfl) hg) Un61 rfl 0 Sz3) <| Og (Gn rfl rfl) (fun hg => Ld (Vg (V rfl) hg) Ga3 (by decide)) <| Og (Gn rfl rfl) (fun hg => FlB _ _ (V rfl) Un26 rfl 0 Sz3) <| Og (Gn rfl rfl) (fun hg => LdB (Vg (V rfl) hg) rfl Ga3 (by decide)) <| Og (Gn rfl rfl) (fun hg => Qn (Vg (V rfl) hg) (Vg (V rfl) hg)) <| O (Qr (V rfl) (fun h => Vg (V rfl) (notT h))) <| Nq <| Cd (V rfl) (fun hc8 => ?_) (fun hc8 => ?_)
          ·have hc8s := hc8; try simp only [BL] at hc8s
           exact absurd hc8 (ff hon.2)
           --done
          ·have hc8s := hc8; try simp only [BL] at hc8s
           refine Sk <| Rt <| U (Mv (V rfl)) <| U (Mv (V rfl)) <| t_putB (l := seenK (gvnL (slotsK l h.pl) i j)) (.inr rfl) Un49 Un3 (V rfl) rfl (V rfl) K <| Nt <| Rq <| O (Ad (V rfl) K (by omega)) <| O (Mv (V rfl)) <| Nq <| k_mapE 62 (bmap (seenK (gvnL (slotsK l h.pl) i ((j + 1))))) rfl (by rw [gvn_s (by omega), seenK_app]) <| Nx (j + 1) (by show (j + 1) ≤ ((slotsK l h.pl).getD i default).given.length; first | omega | (simp; done) | (refine ⟨?_, ?_⟩ <;> first | omega | (simp; done))) (by show ((slotsK l h.pl).getD i default).given.length - (j + 1) < ((slotsK l h.pl).getD i default).given.length - j; omega) (We (ow := [(1, Own.box 1 (fun zt => SV.renm (mvN 61 62) ((fun zt => SV.renm (mvN 4 61) ((fun zt => SV.renm (mvN 3 60) ((stG l) zt)) zt)) zt)) 24), (2, Own.box 2 (fun zt => SV.renm (mvN 61 62) ((fun zt => SV.renm (mvN 4 61) ((fun zt => SV.renm (mvN 3 60) ((hdCell h) zt)) zt)) zt)) 26), (5, Own.box 3 (fun zt => SV.renm (mvN 61 62) ((fun zi => (rowG slCell default ((slotsK l h.pl))) i (0 + zi)) zt)) 41), (62, Own.amap (bmap (seenK (gvnL (slotsK l h.pl) i ((j + 1))))))]) (Vs rfl) (by exact ⟨⟨_, rfl, rfl, rfl, (An rfl)⟩, ⟨_, rfl, rfl, rfl, (An rfl)⟩, ⟨_, rfl, rfl, rfl, (An rfl)⟩, ⟨_, rfl, rfl⟩, Z⟩))
         ·have hc7s := hc7; try simp only [BL] at hc7s
          refine Ex <| Rq <| O (Ad (V rfl) K (by omega)) <| O (Mv (V rfl)) <| Nq <| k_mv 62 61 rfl rfl <| k_mapE 61 (bmap (seenK (gvnL (slotsK l h.pl) ((i + 1)) 0))) rfl (by rw [gvn_n (by omega) (by omega)]) <| Nx (i + 1) (by show (i + 1) ≤ (slotsK l h.pl).length; first | omega | (simp; done) | (refine ⟨?_, ?_⟩ <;> first | omega | (simp; done))) (by show (slotsK l h.pl).length - (i + 1) < (slotsK l h.pl).length - i; omega) (We (ow := [(1, Own.box 1 (fun zt => SV.renm (mvN 4 61) ((fun zt => SV.renm (mvN 3 60) ((stG l) zt)) zt)) 24), (2, Own.box 2 (fun zt => SV.renm (mvN 4 61) ((fun zt => SV.renm (mvN 3 60) ((hdCell h) zt)) zt)) 26), (61, Own.amap (bmap (seenK (gvnL (slotsK l h.pl) ((i + 1)) 0))))]) (Vs rfl) (by exact ⟨⟨_, rfl, rfl, rfl, (An rfl)⟩, ⟨_, rfl, rfl, rfl, (An rfl)⟩, ⟨_, rfl, rfl⟩, Z⟩))
       ·have hc6s := hc6; try simp only [BL] at hc6s
        have hfh := flat_head hc0 hpl
        have hfz := hfh.1
        exact Ex <| Sq <| Rqd (by kernel_rfl) (by kernel_rfl) <| O (Mv (V rfl)) <| O (Ql (V rfl) K) <| O (Mv (V rfl)) <| Og (Gy rfl rfl) (fun hg => Mv (V rfl)) <| Og (Gy rfl rfl) (fun hg => Ix (Vg (V rfl) hg) K ts33 te33 (by omega) (by omega)) <| Og (Gy rfl rfl) (fun hg => Ld (Vg (V rfl) hg) Ga3 (by decide)) <| Og (Gy rfl rfl) (fun hg => FlB _ _ (V rfl) Un26 rfl 0 Sz3) <| Og (Gy rfl rfl) (fun hg => LdB (Vg (V rfl) hg) rfl Ga3 (by decide)) <| Og (Gy rfl rfl) (fun hg => Ql (Vg (V rfl) hg) (Vg (V rfl) hg)) <| O (Qa (V rfl) (fun h => Vg (V rfl) h)) <| O (As (V rfl)) <| Nq <| Rx <| R1 rfl (V rfl) rfl (by show bv ((decide ((0 : Int) = 0)) && (decide ((((flatP l h.pl)).getD 0 0) = h.pl))) = bv true; exact congrArg bv (by rw [hfh.2]; simp))
end Go.Proofs.Ytmcdamcedemdiaa
