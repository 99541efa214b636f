/- What the proof of SlotSays rests on, part 5: the engine, the walks, the plain laws. -/
import Derived.Test.YtmcdamcedemdiaaSlotSaysM4
set_option linter.unusedVariables false
set_option linter.unusedSimpArgs false
namespace Go.Proofs.Ytmcdamcedemdiaa
open Go.RowKit Go.Eng
def rtI (l : List Nd) (k : Int) : Int := idxF (fun n => decide (n.host = k)) l
def givL (l : List Nd) (H num : Int) : List Int := (l.getD H.toNat default).kids.filter fun c => decide ((l.getD c.toNat default).mark = num)
def slStep (l : List Nd) (H : Int) (out : List Sl) (k : Int) : List Sl :=
  if (l.getD k.toNat default).tag < 90 then out else out ++ [⟨k, (l.getD k.toNat default).tag - 90, if (out.any fun y => decide (y.num = (l.getD k.toNat default).tag - 90)) = true then [] else givL l H ((l.getD k.toNat default).tag - 90)⟩]
def slotsL (l : List Nd) (H : Int) (L : List Int) : List Sl := L.foldl (slStep l H) []
def slotsR (l : List Nd) (r : Int) : List Sl := slotsL l (l.getD r.toNat default).host (ordSt l r)
def givenK (l : List Nd) (k r : Int) : Int := if idxF (fun x : Sl => decide (k ∈ x.given)) (slotsR l r) < 0 then -1 else ((slotsR l r).getD (idxF (fun x : Sl => decide (k ∈ x.given)) (slotsR l r)).toNat default).pl
def givenI (l : List Nd) (k : Int) : Int := if (l.getD k.toNat default).par < 0 then -1 else if rtI l (l.getD k.toNat default).par < 0 then -1 else givenK l k (rtI l (l.getD k.toNat default).par)
def inSlot (k : Int) (x : Sl) : Bool := decide (x.pl = k) && decide (0 < x.given.length)
def shownS (l : List Nd) (k t : Int) : List Int := if idxF (inSlot k) (slotsR l t) < 0 then (l.getD k.toNat default).kids else ((slotsR l t).getD (idxF (inSlot k) (slotsR l t)).toNat default).given
def shownL (l : List Nd) (k : Int) : List Int :=
  if 0 ≤ rtI l k then (l.getD (rtI l k).toNat default).kids
  else if 90 ≤ (l.getD k.toNat default).tag ∧ 0 ≤ (l.getD (topSt l k).toNat default).host then shownS l k (topSt l k) else (l.getD k.toNat default).kids
structure SlInv (l : List Nd) (H : Int) (L : List Int) (out : List Sl) : Prop where
  pls : out.map Sl.pl = L.filter fun k => decide (90 ≤ (l.getD k.toNat default).tag)
  num : ∀ x ∈ out, x.num = (l.getD x.pl.toNat default).tag - 90 ∧ 90 ≤ (l.getD x.pl.toNat default).tag ∧ (x.given = [] ∨ x.given = givL l H x.num)
  one : out.Pairwise fun x y => x.num = y.num → y.given = []
theorem slInv_s {l : List Nd} {H : Int} {L : List Int} {out : List Sl} (I : SlInv l H L out) (k : Int) : SlInv l H (L ++ [k]) (slStep l H out k) := by
  unfold slStep
  by_cases q : (l.getD k.toNat default).tag < 90
  · rw [if_pos q]
    refine ⟨?_, I.num, I.one⟩
    rw [List.filter_append, List.filter_cons_of_neg (by simpa using q), List.filter_nil, List.append_nil]; exact I.pls
  · rw [if_neg q]
    refine ⟨?_, fun x hx => ?_, ?_⟩
    · rw [List.map_append, List.filter_append, List.filter_cons_of_pos (p := fun k : Int => decide (90 ≤ (l.getD k.toNat default).tag)) (decide_eq_true (show 90 ≤ (l.getD k.toNat default).tag by omega)), List.filter_nil, I.pls]; rfl
    · rcases List.mem_append.1 hx with hx | hx
      · exact I.num x hx
      · rw [List.mem_singleton] at hx
        subst hx
        refine ⟨rfl, by show 90 ≤ (l.getD k.toNat default).tag; omega, ?_⟩
        show (if _ then _ else _) = [] ∨ (if _ then _ else _) = _
        split
        · exact .inl rfl
        · exact .inr rfl
    · rw [List.pairwise_append]
      refine ⟨I.one, List.pairwise_singleton _ _, fun x hx y hy e => ?_⟩
      rw [List.mem_singleton] at hy
      subst hy
      show (if _ then _ else _) = []
      rw [if_pos (List.any_eq_true.2 ⟨x, hx, decide_eq_true e⟩)]
theorem slInv_f {l : List Nd} {H : Int} : ∀ (L done : List Int) (out : List Sl), SlInv l H done out → SlInv l H (done ++ L) (L.foldl (slStep l H) out)
  | [], done, out, I => by rw [List.append_nil]; exact I
  | k :: L, done, out, I => by
    have := slInv_f L (done ++ [k]) _ (slInv_s I k)
    rwa [List.append_assoc] at this
theorem slInv (l : List Nd) (H : Int) (L : List Int) : SlInv l H L (slotsL l H L) := slInv_f L [] [] ⟨rfl, fun x hx => (by cases hx), List.Pairwise.nil⟩
theorem sl_uniq {l : List Nd} {H : Int} {L : List Int} {x y : Sl} {c : Int} (hx : x ∈ slotsL l H L) (hy : y ∈ slotsL l H L) (h1 : c ∈ x.given) (h2 : c ∈ y.given) : x = y := by
  have I := slInv l H L
  have num : ∀ z ∈ slotsL l H L, c ∈ z.given → (l.getD c.toNat default).mark = z.num := fun z hz hc => by
    rcases (I.num z hz).2.2 with e | e
    · rw [e] at hc; cases hc
    · rw [e] at hc
      exact of_decide_eq_true (List.mem_filter.1 hc).2
  obtain ⟨i, hi, rfl⟩ := List.getElem_of_mem hx
  obtain ⟨j, hj, rfl⟩ := List.getElem_of_mem hy
  have P := List.pairwise_iff_getElem.1 I.one
  have e := (num _ hx h1).symm.trans (num _ hy h2)
  rcases Nat.lt_trichotomy i j with q | q | q
  · have := P i j hi hj q e
    rw [this] at h2; cases h2
  · subst q; rfl
  · have := P j i hj hi q e.symm
    rw [this] at h1; cases h1
theorem sl_given {l : List Nd} {H : Int} {L : List Int} {x : Sl} {c : Int} (hx : x ∈ slotsL l H L) (h1 : c ∈ x.given) : x.given = givL l H x.num ∧ c ∈ (l.getD H.toNat default).kids ∧ (l.getD c.toNat default).mark = x.num ∧ x.pl ∈ L ∧ 90 ≤ (l.getD x.pl.toNat default).tag := by
  have I := slInv l H L
  obtain ⟨a, b, d⟩ := I.num x hx
  have hp : x.pl ∈ (slotsL l H L).map Sl.pl := List.mem_map.2 ⟨x, hx, rfl⟩
  rw [I.pls] at hp
  rcases d with e | e
  · rw [e] at h1; cases h1
  · have h2 := h1
    rw [e] at h2
    exact ⟨e, (List.mem_filter.1 h2).1, of_decide_eq_true (List.mem_filter.1 h2).2, (List.mem_filter.1 hp).1, b⟩
theorem sl_pl {l : List Nd} {H : Int} {L : List Int} (hL : L.Nodup) {x y : Sl} (hx : x ∈ slotsL l H L) (hy : y ∈ slotsL l H L) (e : x.pl = y.pl) : x = y := by
  have I := slInv l H L
  have hn : ((slotsL l H L).map Sl.pl).Nodup := by rw [I.pls]; exact hL.filter _
  obtain ⟨i, hi, rfl⟩ := List.getElem_of_mem hx
  obtain ⟨j, hj, rfl⟩ := List.getElem_of_mem hy
  have hi' : i < ((slotsL l H L).map Sl.pl).length := by simpa using hi
  have hj' : j < ((slotsL l H L).map Sl.pl).length := by simpa using hj
  have P := List.pairwise_iff_getElem.1 hn
  rcases Nat.lt_trichotomy i j with q | q | q
  · exact absurd (by rw [List.getElem_map, List.getElem_map]; exact e) (P i j hi' hj' q)
  · subst q; rfl
  · exact absurd (by rw [List.getElem_map, List.getElem_map]; exact e.symm) (P j i hj' hi' q)
section
variable {l : List Nd}
theorem rt_hit {k : Int} (q : 0 ≤ rtI l k) : (rtI l k < (l.length : Int)) ∧ (l.getD (rtI l k).toNat default).host = k := by
  rcases idxF_cases (fun n : Nd => decide (n.host = k)) default l with ⟨e, _⟩ | ⟨i, e, hi, hp, _⟩
  · unfold rtI at q; omega
  · have e : rtI l k = (i : Int) := e
    rw [e, Int.toNat_natCast]
    exact ⟨by omega, of_decide_eq_true hp⟩
theorem rt_none {k : Int} (q : ¬ 0 ≤ rtI l k) {r : Int} (hr : 0 ≤ r ∧ r < (l.length : Int)) : (l.getD r.toNat default).host ≠ k := fun e => by
  rcases idxF_cases (fun n : Nd => decide (n.host = k)) default l with ⟨_, e2⟩ | ⟨i, e2, hi, hp, _⟩
  · have := e2 _ (mem_getD (d := default) (show r.toNat < l.length by omega))
    rw [decide_eq_true e] at this; cases this
  · exact q (by show 0 ≤ idxF _ l; omega)
theorem rt_of (h : checkSt l = 0) {k r : Int} (hr : 0 ≤ r ∧ r < (l.length : Int)) (e : (l.getD r.toNat default).host = k) (hk : 0 ≤ k) : rtI l k = r := by
  by_cases q : 0 ≤ rtI l k
  · have hh := rt_hit q
    exact (right_to h).one _ _ ⟨q, hh.1⟩ hr (by rw [hh.2]; exact hk) (by rw [hh.2, e])
  · exact absurd e (rt_none q hr)
theorem line_ind (h : checkSt l = 0) {P : Int → Prop} (step : ∀ k, 0 ≤ k ∧ k < (l.length : Int) → (0 ≤ above (l.getD k.toNat default) → P (above (l.getD k.toNat default))) → P k) : ∀ k, 0 ≤ k ∧ k < (l.length : Int) → P k := by
  have key : ∀ (d : Nat) (k : Int), 0 ≤ k ∧ k < (l.length : Int) → dpt l k = d → P k := fun d => by
    induction d with
    | zero => intro k hk e; rw [dpt_eq h hk] at e; cases e
    | succ d ih =>
      intro k hk e
      refine step k hk fun h0 => ih _ ⟨h0, (above_in (checkSt_nodes h) hk).2⟩ ?_
      rw [dpt_eq h hk] at e; omega
  exact fun k hk => key _ k hk rfl
theorem lnSelf (h : checkSt l = 0) {k : Int} (hk : 0 ≤ k ∧ k < (l.length : Int)) : k ∈ line l k := by rw [line_eq h hk]; exact .head _
theorem lnMem (h : checkSt l = 0) {k x : Int} (hk : 0 ≤ k ∧ k < (l.length : Int)) : x ∈ line l k ↔ x = k ∨ x ∈ line l (above (l.getD k.toNat default)) := by rw [line_eq h hk, List.mem_cons]
theorem line_up (h : checkSt l = 0) {k x : Int} (hk : 0 ≤ k ∧ k < (l.length : Int)) (hx : x ∈ line l (above (l.getD k.toNat default))) : 0 ≤ above (l.getD k.toNat default) := Classical.byContradiction fun q => by
  rw [line_neg (by omega)] at hx; cases hx
theorem line_trans (h : checkSt l = 0) {x y : Int} : ∀ k, 0 ≤ k ∧ k < (l.length : Int) → x ∈ line l k → y ∈ line l x → y ∈ line l k :=
  line_ind h (P := fun k => x ∈ line l k → y ∈ line l x → y ∈ line l k) fun k hk ih h1 h2 => by
    rcases (lnMem h hk).1 h1 with e | q
    · rw [← e]; exact h2
    · exact (lnMem h hk).2 (.inr (ih (line_up h hk q) q h2))
def dig (l : List Nd) (k : Int) : Nat := if 0 ≤ (l.getD k.toNat default).host then 1 else 2
def rkL (l : List Nd) : List Int → Nat
  | [] => 0
  | k :: r => rkL l r + dig l k * 3 ^ (l.length - (r.length + 1))
def rk (l : List Nd) (k : Int) : Nat := rkL l (line l k)
def ex (l : List Nd) (k : Int) : Nat := 3 ^ (l.length - dpt l k)
theorem rk_eq (h : checkSt l = 0) {k : Int} (hk : 0 ≤ k ∧ k < (l.length : Int)) : rk l k = rk l (above (l.getD k.toNat default)) + dig l k * ex l k := by
  unfold rk ex
  rw [dpt_eq h hk, line_eq h hk]; rfl
theorem ex_eq (h : checkSt l = 0) {k : Int} (hk : 0 ≤ k ∧ k < (l.length : Int)) : ex l (above (l.getD k.toNat default)) = 3 * ex l k := by
  have h1 := dpt_le h hk
  unfold ex
  rw [dpt_eq h hk] at h1 ⊢
  rw [show l.length - dpt l (above (l.getD k.toNat default)) = (l.length - (dpt l (above (l.getD k.toNat default)) + 1)) + 1 by omega, Nat.pow_succ, Nat.mul_comm]
theorem ex_pos (h : checkSt l = 0) (k : Int) : 0 < ex l k := Nat.pow_pos (by decide)
theorem dig_12 (h : checkSt l = 0) (k : Int) : 1 ≤ dig l k ∧ dig l k ≤ 2 := by unfold dig; split <;> omega
theorem rk_one (h : checkSt l = 0) {k : Int} (hk : 0 ≤ k ∧ k < (l.length : Int)) : rk l (above (l.getD k.toNat default)) < rk l k ∧ rk l k + ex l k ≤ rk l (above (l.getD k.toNat default)) + ex l (above (l.getD k.toNat default)) := by
  have h1 := rk_eq h hk; have h2 := ex_eq h hk; have h3 := ex_pos h k; have h4 := dig_12 h k
  have h5 : 1 * ex l k ≤ dig l k * ex l k := Nat.mul_le_mul_right _ h4.1
  have h6 : dig l k * ex l k ≤ 2 * ex l k := Nat.mul_le_mul_right _ h4.2
  omega
theorem rk_up (h : checkSt l = 0) {x : Int} : ∀ k, 0 ≤ k ∧ k < (l.length : Int) → x ∈ line l k → rk l k + ex l k ≤ rk l x + ex l x ∧ rk l x ≤ rk l k :=
  line_ind h (P := fun k => x ∈ line l k → rk l k + ex l k ≤ rk l x + ex l x ∧ rk l x ≤ rk l k) fun k hk ih hx => by
    rcases (lnMem h hk).1 hx with e | q
    · rw [e]; exact ⟨Nat.le_refl _, Nat.le_refl _⟩
    · have := ih (line_up h hk q) q
      have := rk_one h hk
      omega
theorem rk_lid (h : checkSt l = 0) : ∀ k, 0 ≤ k ∧ k < (l.length : Int) → rk l k ≤ 3 ^ l.length := fun k hk => by
  have key := line_ind h (P := fun k => rk l k + ex l k ≤ 3 ^ l.length) (fun k hk ih => by
    have h1 := rk_one h hk
    by_cases q : 0 ≤ above (l.getD k.toNat default)
    · have := ih q; omega
    · have e1 : rk l (above (l.getD k.toNat default)) = 0 := by unfold rk; rw [line_neg (by omega)]; rfl
      have e2 : ex l (above (l.getD k.toNat default)) = 3 ^ l.length := by unfold ex dpt; rw [line_neg (by omega)]; rfl
      omega) k hk
  omega
theorem kid_above (h : checkSt l = 0) {k c : Int} (hk : 0 ≤ k ∧ k < (l.length : Int)) (hc : c ∈ (l.getD k.toNat default).kids) : (0 ≤ c ∧ c < (l.length : Int)) ∧ (l.getD c.toNat default).used = true ∧ (l.getD c.toNat default).par = k ∧ above (l.getD c.toNat default) = k ∧ (l.getD c.toNat default).host < 0 := by
  obtain ⟨a, b, d, _⟩ := kid_up h hk hc
  have := above_par h a (by omega)
  exact ⟨a, b, d, by rw [this.1, d], this.2⟩
theorem host_above (h : checkSt l = 0) {r H : Int} (e : (l.getD r.toNat default).host = H) (hH : 0 ≤ H) : above (l.getD r.toNat default) = H := by unfold above; rw [if_pos (by omega), e]
theorem host_in (h : checkSt l = 0) {r H : Int} (hr : 0 ≤ r ∧ r < (l.length : Int)) (e : (l.getD r.toNat default).host = H) (hH : 0 ≤ H) : H < (l.length : Int) ∧ (l.getD r.toNat default).par < 0 ∧ (l.getD H.toNat default).used = true ∧ (l.getD r.toNat default).used = true := by
  have n := st_n1 h hr
  refine ⟨by have := n.host; omega, by have := n.one (by omega); omega, ?_, ?_⟩
  · have := (right_to h).host r hr (by omega)
    rwa [e] at this
  · cases hu : (l.getD r.toNat default).used with
    | true => rfl
    | false => have := (n.free hu).2.2.2.1; omega
theorem topLn (h : checkSt l = 0) : ∀ k, 0 ≤ k ∧ k < (l.length : Int) → topSt l k ∈ line l k ∧ (0 ≤ topSt l k ∧ topSt l k < (l.length : Int)) ∧ (l.getD (topSt l k).toNat default).par < 0 :=
  line_ind h (P := fun k => topSt l k ∈ line l k ∧ (0 ≤ topSt l k ∧ topSt l k < (l.length : Int)) ∧ (l.getD (topSt l k).toNat default).par < 0) fun k hk ih => by
    by_cases hp : 0 ≤ (l.getD k.toNat default).par
    · have ha := (above_par h hk hp).1
      have := ih (by omega)
      rw [ha, ← top_par h hk hp] at this
      exact ⟨(lnMem h hk).2 (.inr (by rw [ha]; exact this.1)), this.2⟩
    · rw [top_self hp]
      exact ⟨lnSelf h hk, hk, by omega⟩
theorem top_of (h : checkSt l = 0) {r : Int} (hr : 0 ≤ r) (hp : (l.getD r.toNat default).par < 0) : ∀ (m : Nat) (k : Int), 0 ≤ k ∧ k < (l.length : Int) → pN l m k = r → topSt l k = r
  | 0, k, hk, e => by
    have e : k = r := e
    rw [e, top_self (by omega)]
  | m + 1, k, hk, e => by
    rw [Nat.add_comm, pN_add l 1 k m] at e
    have h1 : 0 ≤ pN l 1 k := by
      have key : ∀ m y, 0 ≤ pN l m y → 0 ≤ y := fun m => by
        induction m with
        | zero => exact fun y q => q
        | succ m ih => exact fun y q => ih y (pN_neg q)
      exact key m _ (by omega)
    have h1 : 0 ≤ p1 l k := h1
    have e : pN l m (p1 l k) = r := e
    rw [p1, if_neg (by omega)] at h1 e
    rw [top_par h hk h1]
    exact top_of h hr hp m _ ⟨h1, (par_kid h hk h1).1⟩ e
theorem ord_top (h : checkSt l = 0) {r k : Int} (hr : 0 ≤ r ∧ r < (l.length : Int)) (hp : (l.getD r.toNat default).par < 0) (hk : k ∈ ordSt l r) : (0 ≤ k ∧ k < (l.length : Int)) ∧ topSt l k = r := by
  have hki := ord_in h _ r hr k hk
  obtain ⟨m, e⟩ := (ordS_mem h hr hki).1 hk
  exact ⟨hki, top_of h hr.1 hp m k hki e⟩
inductive Sh (l : List Nd) (k c : Int) : Prop where
  | root (r : Int) (hr : 0 ≤ r ∧ r < (l.length : Int)) (e : (l.getD r.toNat default).host = k) (hc : c ∈ (l.getD r.toNat default).kids)
  | given (x : Sl) (no : ∀ r, 0 ≤ r ∧ r < (l.length : Int) → (l.getD r.toNat default).host ≠ k) (hH : 0 ≤ (l.getD (topSt l k).toNat default).host) (hx : x ∈ slotsR l (topSt l k)) (e : x.pl = k) (hc : c ∈ x.given)
  | kid (no : ∀ r, 0 ≤ r ∧ r < (l.length : Int) → (l.getD r.toNat default).host ≠ k) (hc : c ∈ (l.getD k.toNat default).kids)
theorem shownS_cases (l : List Nd) (k t : Int) : (shownS l k t = (l.getD k.toNat default).kids ∧ ∀ x ∈ slotsR l t, x.pl = k → x.given = []) ∨ ∃ x ∈ slotsR l t, x.pl = k ∧ x.given ≠ [] ∧ shownS l k t = x.given := by
  unfold shownS
  rcases idxF_cases (inSlot k) default (slotsR l t) with ⟨e, ha⟩ | ⟨i, e, hi, hp, _⟩
  · rw [e, if_pos (by omega)]
    refine .inl ⟨rfl, fun x hx e => ?_⟩
    have := ha x hx
    unfold inSlot at this
    rw [decide_eq_true e, Bool.true_and, decide_eq_false_iff_not] at this
    exact List.eq_nil_of_length_eq_zero (by omega)
  · rw [e, if_neg (by omega), Int.toNat_natCast]
    unfold inSlot at hp
    rw [Bool.and_eq_true, decide_eq_true_iff, decide_eq_true_iff] at hp
    exact .inr ⟨_, mem_getD hi, hp.1, fun q => by rw [q] at hp; exact absurd hp.2 (by simp), rfl⟩
theorem sh_cases {k c : Int} (hc : c ∈ shownL l k) : Sh l k c := by
  unfold shownL at hc
  by_cases q : 0 ≤ rtI l k
  · rw [if_pos q] at hc
    have := rt_hit q
    exact .root (rtI l k) ⟨q, this.1⟩ this.2 hc
  · rw [if_neg q] at hc
    have no := fun r hr => rt_none q (r := r) hr
    split at hc
    · rename_i q2
      rcases shownS_cases l k (topSt l k) with ⟨e, _⟩ | ⟨x, hx, e, _, e2⟩
      · rw [e] at hc; exact .kid no hc
      · rw [e2] at hc; exact .given x no q2.2 hx e hc
    · exact .kid no hc
theorem given_of (h : checkSt l = 0) {k c : Int} (hk : 0 ≤ k ∧ k < (l.length : Int)) {x : Sl} (hH : 0 ≤ (l.getD (topSt l k).toNat default).host) (hx : x ∈ slotsR l (topSt l k)) (hc : c ∈ x.given) :
    (l.getD (topSt l k).toNat default).host < (l.length : Int) ∧ c ∈ (l.getD (l.getD (topSt l k).toNat default).host.toNat default).kids := by
  have ht := topLn h k hk
  exact ⟨(host_in h ht.2.1 rfl hH).1, (sl_given hx hc).2.1⟩
theorem sh_in (h : checkSt l = 0) {k c : Int} (hk : 0 ≤ k ∧ k < (l.length : Int)) (s : Sh l k c) : (0 ≤ c ∧ c < (l.length : Int)) ∧ (l.getD c.toNat default).used = true ∧ 0 ≤ (l.getD c.toNat default).par ∧ (l.getD c.toNat default).host < 0 := by
  cases s with
  | root r hr e hc => have := kid_above h hr hc; exact ⟨this.1, this.2.1, by omega, this.2.2.2.2⟩
  | given x no hH hx e hc =>
    have h1 := given_of h hk hH hx hc
    have := kid_above h ⟨hH, h1.1⟩ h1.2
    exact ⟨this.1, this.2.1, by omega, this.2.2.2.2⟩
  | kid no hc => have := kid_above h hk hc; exact ⟨this.1, this.2.1, by omega, this.2.2.2.2⟩
theorem sh_rank (h : checkSt l = 0) {k c : Int} (hk : 0 ≤ k ∧ k < (l.length : Int)) (s : Sh l k c) : rk l k < rk l c := by
  cases s with
  | root r hr e hc =>
    have h1 := kid_above h hr hc
    have h2 := (rk_one h h1.1).1
    have h3 := (rk_one h hr).1
    rw [h1.2.2.2.1] at h2
    rw [host_above h e hk.1] at h3
    omega
  | given x no hH hx e hc =>
    have h1 := given_of h hk hH hx hc
    have h2 := kid_above h ⟨hH, h1.1⟩ h1.2
    have ht := topLn h k hk
    have ha := host_above h (r := topSt l k) rfl hH
    have r1 := rk_eq h h2.1
    have r2 := rk_eq h ht.2.1
    have r3 := rk_up h k hk ht.1
    have e1 := ex_eq h h2.1
    have e2 := ex_eq h ht.2.1
    have d1 : dig l c = 2 := by unfold dig; rw [if_neg (by omega)]
    have d2 : dig l (topSt l k) = 1 := by unfold dig; rw [if_pos hH]
    have e3 := ex_pos h k
    rw [h2.2.2.2.1, d1] at r1
    rw [h2.2.2.2.1] at e1
    rw [ha, d2] at r2
    rw [ha] at e2
    omega
  | kid no hc =>
    have h1 := kid_above h hk hc
    have h2 := (rk_one h h1.1).1
    rw [h1.2.2.2.1] at h2
    exact h2
theorem under_in (h : checkSt l = 0) {k x : Int} (hk : 0 ≤ k ∧ k < (l.length : Int)) (u : Under (shownL l) k x) : (0 ≤ x ∧ x < (l.length : Int)) ∧ rk l k ≤ rk l x ∧ ((l.getD k.toNat default).used = true → (l.getD x.toNat default).used = true) ∧ (0 ≤ (l.getD x.toNat default).host → x = k) := by
  induction u with
  | refl => exact ⟨hk, Nat.le_refl _, id, fun _ => rfl⟩
  | step _ hm ih =>
    have s := sh_cases hm
    have a := sh_in h ih.1 s
    have b := sh_rank h ih.1 s
    exact ⟨a.1, by omega, fun _ => a.2.1, fun q => by omega⟩
theorem shown_ranked (h : checkSt l = 0) {k : Int} (hk : 0 ≤ k ∧ k < (l.length : Int)) : Ranked (shownL l) (Under (shownL l) k) (rk l) (3 ^ l.length) := ⟨fun x ux c hc => .step ux hc, fun x ux c hc => sh_rank h (under_in h hk ux).1 (sh_cases hc), fun x ux => rk_lid h x (under_in h hk ux).1⟩
theorem under_enter (h : checkSt l = 0) {k x : Int} (hk : 0 ≤ k ∧ k < (l.length : Int)) (u : Under (shownL l) k x) {r H : Int} (hr : 0 ≤ r ∧ r < (l.length : Int)) (e : (l.getD r.toNat default).host = H) (hH : 0 ≤ H) (hHH : 0 ≤ (l.getD H.toNat default).host) (hx : r ∈ line l x) : H ∈ line l k := by
  induction u with
  | refl =>
    refine line_trans h k hk hx ?_
    rw [lnMem h hr, host_above h e hH]
    exact .inr (lnSelf h ⟨hH, (host_in h hr e hH).1⟩)
  | @step y c uy hm ih =>
    have hy := under_in h hk uy
    have s := sh_cases hm
    have hc := sh_in h hy.1 s
    have hne : r ≠ c := fun q => by rw [q] at e; omega
    rcases (lnMem h hc.1).1 hx with q | q
    · exact absurd q hne
    · cases s with
      | root r2 hr2 e2 hc2 =>
        have h1 := kid_above h hr2 hc2
        rw [h1.2.2.2.1] at q
        rcases (lnMem h hr2).1 q with q | q
        · subst q
          rw [e] at e2
          subst e2
          rw [hy.2.2.2 hHH]
          exact lnSelf h hk
        · rw [host_above h e2 hy.1.1] at q
          exact ih q
      | given x2 no hH2 hx2 e2 hc2 =>
        have h1 := given_of h hy.1 hH2 hx2 hc2
        have h2 := kid_above h ⟨hH2, h1.1⟩ h1.2
        rw [h2.2.2.2.1] at q
        have ht := topLn h y hy.1
        refine ih (line_trans h y hy.1 ht.1 ?_)
        rw [lnMem h ht.2.1, host_above h rfl hH2]
        exact .inr q
      | kid no hc2 =>
        have h1 := kid_above h hy.1 hc2
        rw [h1.2.2.2.1] at q
        exact ih q
theorem shown_one (h : checkSt l = 0) {k : Int} (hk : 0 ≤ k ∧ k < (l.length : Int)) : One (shownL l) (Under (shownL l) k) := fun a b c ua ub ha hb => by
  have ia := under_in h hk ua
  have ib := under_in h hk ub
  -- a shows what is in its root, and c's parent is that root
  have rootKid : ∀ {a b : Int} (ia : Under (shownL l) k a) (r : Int) (hr : 0 ≤ r ∧ r < (l.length : Int)) (e : (l.getD r.toNat default).host = a) (ha : 0 ≤ a) (hx : rk l r ≤ rk l k), False := fun {a b} ua r hr e ha hx => by
    have h1 := under_in h hk ua
    have h2 := (rk_one h hr).1
    rw [host_above h e ha] at h2
    omega
  have AB : ∀ {a b : Int} (ua : Under (shownL l) k a) (ub : Under (shownL l) k b) (r : Int) (hr : 0 ≤ r ∧ r < (l.length : Int)) (e : (l.getD r.toNat default).host = a) (hc : c ∈ (l.getD r.toNat default).kids) (x : Sl) (hH : 0 ≤ (l.getD (topSt l b).toNat default).host) (hx : x ∈ slotsR l (topSt l b)) (hcx : c ∈ x.given), False := fun {a b} ua ub r hr e hc x hH hx hcx => by
    have ia := under_in h hk ua
    have ib := under_in h hk ub
    have h1 := given_of h ib.1 hH hx hcx
    have h2 := (kid_above h ⟨hH, h1.1⟩ h1.2).2.2.1
    have h3 := (kid_above h hr hc).2.2.1
    have h4 : (l.getD (topSt l b).toNat default).host = r := by omega
    have ht := topLn h b ib.1
    have h5 := under_enter h hk ub ht.2.1 h4 hr.1 (by omega) ht.1
    exact rootKid (b := b) ua r hr e ia.1.1 (rk_up h k hk h5).2
  have AC : ∀ {a b : Int} (ua : Under (shownL l) k a) (ub : Under (shownL l) k b) (r : Int) (hr : 0 ≤ r ∧ r < (l.length : Int)) (e : (l.getD r.toNat default).host = a) (hc : c ∈ (l.getD r.toNat default).kids) (hcb : c ∈ (l.getD b.toNat default).kids), False := fun {a b} ua ub r hr e hc hcb => by
    have ia := under_in h hk ua
    have ib := under_in h hk ub
    have h3 := (kid_above h hr hc).2.2.1
    have h4 := (kid_above h ib.1 hcb).2.2.1
    have h5 : b = r := by omega
    have h6 := ib.2.2.2 (by rw [h5, e]; exact ia.1.1)
    exact rootKid (b := b) ua r hr e ia.1.1 (by rw [← h5, h6]; exact Nat.le_refl _)
  have BC : ∀ {a b : Int} (ia : 0 ≤ a ∧ a < (l.length : Int)) (ib : 0 ≤ b ∧ b < (l.length : Int)) (x : Sl) (hH : 0 ≤ (l.getD (topSt l a).toNat default).host) (hx : x ∈ slotsR l (topSt l a)) (hcx : c ∈ x.given) (no : ∀ r, 0 ≤ r ∧ r < (l.length : Int) → (l.getD r.toNat default).host ≠ b) (hcb : c ∈ (l.getD b.toNat default).kids), False := fun {a b} ia ib x hH hx hcx no hcb => by
    have h1 := given_of h ia hH hx hcx
    have h2 := (kid_above h ⟨hH, h1.1⟩ h1.2).2.2.1
    have h3 := (kid_above h ib hcb).2.2.1
    exact no _ (topLn h a ia).2.1 (by omega)
  cases sh_cases ha with
  | root r hr e hc =>
    cases sh_cases hb with
    | root r2 hr2 e2 hc2 =>
      have h1 := (kid_above h hr hc).2.2.1
      have h2 := (kid_above h hr2 hc2).2.2.1
      rw [← e, ← e2, show r = r2 by omega]
    | given x no hH hx e2 hc2 => exact (AB ua ub r hr e hc x hH hx hc2).elim
    | kid no hc2 => exact (AC ua ub r hr e hc hc2).elim
  | given x no hH hx e hc =>
    cases sh_cases hb with
    | root r2 hr2 e2 hc2 => exact (AB ub ua r2 hr2 e2 hc2 x hH hx hc).elim
    | given x2 no2 hH2 hx2 e2 hc2 =>
      have h1 := given_of h ia.1 hH hx hc
      have h2 := (kid_above h ⟨hH, h1.1⟩ h1.2).2.2.1
      have h3 := given_of h ib.1 hH2 hx2 hc2
      have h4 := (kid_above h ⟨hH2, h3.1⟩ h3.2).2.2.1
      have h5 := (right_to h).one _ _ (topLn h a ia.1).2.1 (topLn h b ib.1).2.1 hH (by omega)
      rw [← h5] at hx2
      rw [← e, ← e2, sl_uniq hx hx2 hc hc2]
    | kid no2 hc2 => exact (BC ia.1 ib.1 x hH hx hc no2 hc2).elim
  | kid no hc =>
    cases sh_cases hb with
    | root r2 hr2 e2 hc2 => exact (AC ub ua r2 hr2 e2 hc2 hc).elim
    | given x2 no2 hH2 hx2 e2 hc2 => exact (BC ib.1 ia.1 x2 hH2 hx2 hc2 no hc).elim
    | kid no2 hc2 =>
      have h1 := (kid_above h ia.1 hc).2.2.1
      have h2 := (kid_above h ib.1 hc2).2.2.1
      omega
theorem shown_nodup (h : checkSt l = 0) {k : Int} (hk : 0 ≤ k ∧ k < (l.length : Int)) : (shownL l k).Nodup := by
  have K : ∀ {x : Int}, 0 ≤ x ∧ x < (l.length : Int) → (l.getD x.toNat default).kids.Nodup := fun hx => kids_nodup h (by omega)
  unfold shownL
  split
  · rename_i q; exact K ⟨q, (rt_hit q).1⟩
  · split
    · rename_i q2
      rcases shownS_cases l k (topSt l k) with ⟨e, _⟩ | ⟨x, hx, e, hne, e2⟩
      · rw [e]; exact K hk
      · rw [e2]
        obtain ⟨c, hc⟩ := List.exists_mem_of_ne_nil _ hne
        rw [(sl_given hx hc).1]
        exact (K ⟨q2.2, (host_in h (topLn h k hk).2.1 rfl q2.2).1⟩).filter _
    · exact K hk
def flatP (l : List Nd) (k : Int) : List Int := preO (shownL l) (3 ^ l.length) k
theorem flat_nodup (h : checkSt l = 0) {k : Int} (hk : 0 ≤ k ∧ k < (l.length : Int)) : (flatP l k).Nodup := pre_nodup (shown_ranked h hk) (shown_one h hk) (fun x ux => shown_nodup h (under_in h hk ux).1) _ k .refl
theorem flat_under (h : checkSt l = 0) {k x : Int} (hx : x ∈ flatP l k) : Under (shownL l) k x := pre_under _ k hx
theorem flat_in (h : checkSt l = 0) {k x : Int} (hk : 0 ≤ k ∧ k < (l.length : Int)) (hx : x ∈ flatP l k) : 0 ≤ x ∧ x < (l.length : Int) := (under_in h hk (flat_under h hx)).1
theorem flat_len2 (h : checkSt l = 0) {k : Int} (hk : 0 ≤ k ∧ k < (l.length : Int)) : (flatP l k).length ≤ l.length := nodup_bound _ _ (flat_nodup h hk) fun x hx => flat_in h hk hx
end
end Go.Proofs.Ytmcdamcedemdiaa
namespace Go.Eng
open Go.RowKit
variable {P : Program} {NN : Nat} {E : Env NN}
theorem q_lookB1R {S : St} {t kt et : TypeId} {m xk : Operand} {k : Int} {l : List (Int × Bool)} (ht : P.underlying t = some (.map kt et)) (hkt : P.underlying kt = some (.int .i64)) (hz : ∀ w, (zeroValue et).run P w = .ok (.bool false) w)
    (hm : Val E S m (mapSV (bmap l))) (hk : Val E S xk (iv k)) : OpQ P E S (.lookup t m xk false) (bv ((kget l k).getD false)) := fun b a w hr dst ty pos after gd => by
  obtain ⟨g, es, clk, h1, hlt, _, hh, hkv⟩ := hm b a w hr
  have h2 : a.eval xk = .int .i64 k := hk b a w hr
  have e : ((mget (bmap l) k).getD (.bool false)) = .bool ((kget l k).getD false) := by rw [bmap, mget_map]; cases kget l k <;> rfl
  refine ⟨(mget (bmap l) k).getD (.bool false), fun w' hw' => ?_, e⟩
  have hh' : w'.heap[g]? = some (.map es clk) := by rw [hw'.block g hlt]; exact hh
  have hck : ∀ e n, (Instr.checkKey e (n + 1) kt (.int .i64 k)).run P w' = .ok () w' := fun e n => MapKept.run_checkKey (k := .int .i64 k) hkt rfl e n
  rcases find_at (k := k) es.toList (bmap l) 0 hkv with ⟨h3, h4, _⟩ | ⟨i, e, h3, h5, _, h4, _⟩
  · have hf := MapKept.run_findKey (P := P) (w := w') hkt h3
    simp [execOp, h1, h2, Instr.lookup, run_underlying ht, MapKept.run_getObj_map hh', hck, hf, hz, h4]
  · have hf := MapKept.run_findKey (P := P) (w := w') hkt h3
    simp [execOp, h1, h2, Instr.lookup, run_underlying ht, MapKept.run_getObj_map hh', hck, hf, h4]
end Go.Eng
namespace Go.Eng
open Go.RowKit
variable {P : Program} {NN : Nat} {E : Env NN}
theorem vb_fnB {S : St} {x : Operand} {f : FuncId} {caps : List SV} {j m : Nat} {get : Nat → SV} {ty : TypeId} (l caps' : List SV) (h : Val E S x (fnL f caps)) (ho : lookO j S.owns = some (.box m get ty)) (hm : m = l.length) (hg : AllN (fun t => get t = l.getD t .junk) m) (hro : allRO l = true)
    (hl : caps.length = caps'.length) (he : AllN (fun t => frzB j l (caps.getD t .junk) = caps'.getD t .junk) caps.length) (hr' : (fnL f caps').isRO = true) : VB E S x (fnA f caps') := fun b a w hr => by
  subst hm
  have hall : ∀ (l : List SV), allRO l = true → ∀ t, t < l.length → (l.getD t .junk).isRO = true := by
    intro l
    induction l with
    | nil => intro _ t ht; simp at ht
    | cons x r ih =>
      intro h t ht
      simp only [allRO, Bool.and_eq_true] at h
      cases t with
      | zero => exact h.1
      | succ t => simpa using ih h.2 t (by simpa using ht)
  obtain ⟨g, cs, hb, hbase, hh, hm, hc⟩ := hr.owns j _ ho
  have hX : ∀ g, E.X g → S.excl E b g := fun g hh => .inl hh
  have hcell : ∀ t, t < l.length → ∃ u, w.cell? ⟨g, t, none⟩ = some u ∧ u.oneCell' = true ∧ RO w E.X (l.getD t .junk) u := fun t ht => by
    obtain ⟨u, hu, h4, h5⟩ := hc t ht
    refine ⟨u, by rw [cell_of_row w g t cs ty (0, 0) hh]; exact hu, h4, ?_⟩
    rw [hg.at t ht] at h5
    exact (h5.toRO (hall l hro t ht)).mono ⟨Nat.le_refl _, fun _ _ _ => rfl⟩ (fun g _ hh => hX g hh)
  have h2 := frzB_R (X' := E.X) hX hb (Array.getElem?_eq_some_iff.1 hh).1 (hr.notX ho (by rw [hb]; exact rfl)) hcell (h b a w hr)
  obtain ⟨cv, hv, hsz, hr2⟩ := h2
  have h3 : R w E.X b (fnL f caps') (a.eval x) := ⟨cv, hv, by rw [hsz, hl], fun t ht => by
    obtain ⟨u, hu, h4⟩ := hr2 t (by rw [hl]; exact ht)
    refine ⟨u, hu, ?_⟩
    show R w E.X b (caps'.getD t .junk) u
    rw [← he.at t (by rw [hl]; exact ht)]; exact h4⟩
  exact h3.toRO hr'
end Go.Eng
namespace Go.Proofs.Ytmcdamcedemdiaa
open Go.RowKit Go.Eng
section
variable {l : List He} {p : Int} {i : Nat}
end
theorem kget_cons {β : Type} (p : Int × β) (r : List (Int × β)) (j : Int) : kget (p :: r) j = if p.1 = j then some p.2 else kget r j := by
  unfold kget; rw [List.find?_cons]
  by_cases e : p.1 = j
  · rw [if_pos e, decide_eq_true e]; rfl
  · rw [if_neg e, decide_eq_false e]
theorem kget_put {β : Type} : ∀ (l : List (Int × β)) (k j : Int) (v : β), kget (kput l k v) j = if j = k then some v else kget l j
  | [], k, j, v => by
    rw [kput, kget_cons]
    by_cases e : j = k
    · rw [if_pos e, if_pos e.symm]
    · rw [if_neg e, if_neg fun q => e q.symm]
  | p :: r, k, j, v => by
    rw [kput]
    by_cases c : p.1 = k
    · rw [if_pos c, kget_cons, kget_cons]
      by_cases e : j = k
      · rw [if_pos e, if_pos e.symm]
      · rw [if_neg e, if_neg (fun q => e q.symm), if_neg (fun q => e (q.symm.trans c))]
    · rw [if_neg c, kget_cons, kget_cons, kget_put r k j v]
      by_cases e : j = k
      · rw [if_neg (fun q => c (q.trans e)), if_pos e, if_pos e]
      · rw [if_neg e, if_neg e]
structure Desk where
  calls : List Ca
  heard : List (Int × Bool)
  stop : Bool
section
variable {p : He → Bool} {k tg ph : Int} {hs : List He} {D : Desk} {i : Nat}
end
section
variable {l : List Nd} {hs : List He} {t : Hd}
end
section
variable {l : List Nd} {t : Int} {hs : List He} {D : Desk} {i : Nat}
end
end Go.Proofs.Ytmcdamcedemdiaa
namespace Go.Proofs.Ytmcdamcedemdiaa
open Go.RowKit Go.Eng
theorem givenK_cases (l : List Nd) (k r : Int) : (givenK l k r = -1 ∧ ∀ x ∈ slotsR l r, ¬ k ∈ x.given) ∨ ∃ x ∈ slotsR l r, k ∈ x.given ∧ givenK l k r = x.pl := by
  unfold givenK
  rcases idxF_cases (fun x : Sl => decide (k ∈ x.given)) default (slotsR l r) with ⟨e, ha⟩ | ⟨i, e, hi, hp, _⟩
  · rw [e, if_pos (by omega)]
    exact .inl ⟨rfl, fun x hx => of_decide_eq_false (ha x hx)⟩
  · rw [e, if_neg (by omega), Int.toNat_natCast]
    exact .inr ⟨_, mem_getD hi, of_decide_eq_true hp, rfl⟩
section
variable {l : List Nd}
theorem given_is (h : checkSt l = 0) {c r : Int} {x : Sl} (hr : 0 ≤ r ∧ r < (l.length : Int)) (hH : 0 ≤ (l.getD r.toNat default).host) (hx : x ∈ slotsR l r) (hc : c ∈ x.given) : givenI l c = x.pl ∧ (l.getD c.toNat default).par = (l.getD r.toNat default).host := by
  have h1 := sl_given hx hc
  have hin := host_in h hr rfl hH
  have h2 := kid_above h ⟨hH, hin.1⟩ h1.2.1
  refine ⟨?_, h2.2.2.1⟩
  unfold givenI
  rw [h2.2.2.1, if_neg (by omega), rt_of h hr rfl hH, if_neg (by omega)]
  rcases givenK_cases l c r with ⟨_, ha⟩ | ⟨y, hy, hcy, e⟩
  · exact absurd hc (ha x hx)
  · rw [e, sl_uniq hy hx hcy hc]
theorem given_to {c k : Int} (e : givenI l c = k) (hk : 0 ≤ k) : ∃ (r : Int) (x : Sl), (0 ≤ r ∧ r < (l.length : Int)) ∧ (l.getD r.toNat default).host = (l.getD c.toNat default).par ∧ 0 ≤ (l.getD c.toNat default).par ∧ x ∈ slotsR l r ∧ c ∈ x.given ∧ x.pl = k := by
  unfold givenI at e
  by_cases a : (l.getD c.toNat default).par < 0
  · rw [if_pos a] at e; omega
  · rw [if_neg a] at e
    by_cases b : rtI l (l.getD c.toNat default).par < 0
    · rw [if_pos b] at e; omega
    · rw [if_neg b] at e
      have hh := rt_hit (l := l) (k := (l.getD c.toNat default).par) (by omega)
      rcases givenK_cases l c (rtI l (l.getD c.toNat default).par) with ⟨e2, _⟩ | ⟨x, hx, hc, e2⟩
      · rw [e2] at e; omega
      · exact ⟨_, x, ⟨by omega, hh.1⟩, hh.2, by omega, hx, hc, by rw [← e2]; exact e⟩
def gvM (l : List Nd) : Nat → List (Int × Bool)
  | 0 => []
  | i + 1 => if (l.getD i default).used = true then kput (gvM l i) (givenI l (i : Int)) true else gvM l i
theorem gvM_t {i : Nat} (u : (l.getD i default).used = true) : gvM l (i + 1) = kput (gvM l i) (givenI l (i : Int)) true := by rw [gvM, if_pos u]
theorem gvM_f {i : Nat} (u : (l.getD i default).used = false) : gvM l (i + 1) = gvM l i := by rw [gvM, if_neg (ff u)]
theorem gv_iff (k : Int) : ∀ n, (kget (gvM l n) k).getD false = true ↔ ∃ j, j < n ∧ (l.getD j default).used = true ∧ givenI l (j : Int) = k
  | 0 => ⟨fun h => (by cases h), fun ⟨j, a, _⟩ => absurd a (Nat.not_lt_zero _)⟩
  | n + 1 => by
    rw [gvM]
    by_cases u : (l.getD n default).used = true
    · rw [if_pos u, kget_put]
      by_cases e : k = givenI l (n : Int)
      · rw [if_pos e]; exact ⟨fun _ => ⟨n, by omega, u, e.symm⟩, fun _ => rfl⟩
      · rw [if_neg e, gv_iff k n]
        constructor
        · rintro ⟨j, a, b, c⟩; exact ⟨j, by omega, b, c⟩
        · rintro ⟨j, a, b, c⟩
          refine ⟨j, Classical.byContradiction fun q => ?_, b, c⟩
          obtain rfl : j = n := by omega
          exact e c.symm
    · rw [if_neg u, gv_iff k n]
      constructor
      · rintro ⟨j, a, b, c⟩; exact ⟨j, by omega, b, c⟩
      · rintro ⟨j, a, b, c⟩
        refine ⟨j, Classical.byContradiction fun q => ?_, b, c⟩
        obtain rfl : j = n := by omega
        exact u b
def hostKids (l : List Nd) (k : Int) : List Int := (l.getD (l.getD ((rootsL l k).getD 0 0).toNat default).host.toNat default).kids
def docL (l : List Nd) (k : Int) : List Int :=
  if 0 ≤ rtI l k then (l.getD (rtI l k).toNat default).kids else if (kget (gvM l l.length) k).getD false = true then (hostKids l k).filter (fun c => decide (givenI l c = k)) else (l.getD k.toNat default).kids
theorem doc_given (h : checkSt l = 0) {k : Int} (hk : 0 ≤ k ∧ k < (l.length : Int)) (g : (kget (gvM l l.length) k).getD false = true) :
    0 ≤ (l.getD (topSt l k).toNat default).host ∧ (0 ≤ topSt l k ∧ topSt l k < (l.length : Int)) ∧ rootsL l k = topSt l k :: rootsL l (l.getD (topSt l k).toNat default).host ∧ ∃ x ∈ slotsR l (topSt l k), x.pl = k ∧ x.given ≠ [] := by
  obtain ⟨j, hj, _, e⟩ := (gv_iff k l.length).1 g
  obtain ⟨r, x, hr, eh, hp, hx, hc, e2⟩ := given_to e hk.1
  have hi := host_in h hr eh hp
  have hm := (sl_given hx hc).2.2.2.1
  rw [e2] at hm
  have ht := (ord_top h hr hi.2.1 hm).2
  subst ht
  have hH : 0 ≤ (l.getD (topSt l k).toNat default).host := by omega
  refine ⟨hH, hr, ?_, x, hx, e2, fun q => ?_⟩
  · rw [(roots_t h hk).2, if_neg (by omega)]
  · rw [q] at hc; cases hc
theorem doc_eq (h : checkSt l = 0) {k : Int} (hk : 0 ≤ k ∧ k < (l.length : Int)) : docL l k = shownL l k := by
  unfold docL shownL
  by_cases q : 0 ≤ rtI l k
  · rw [if_pos q, if_pos q]
  · rw [if_neg q, if_neg q]
    by_cases g : (kget (gvM l l.length) k).getD false = true
    · obtain ⟨hH, htr, hroot, x, hx, e, hne⟩ := doc_given h hk g
      have I := slInv l (l.getD (topSt l k).toNat default).host (ordSt l (topSt l k))
      have htag := (I.num x hx).2.1
      rw [e] at htag
      rw [if_pos g, if_pos ⟨htag, hH⟩]
      rcases shownS_cases l k (topSt l k) with ⟨_, ha⟩ | ⟨y, hy, ey, _, e2⟩
      · exact absurd (ha x hx e) hne
      · obtain rfl : y = x := sl_pl (ordS_nodup h htr) hy hx (ey.trans e.symm)
        obtain ⟨c0, hc0⟩ := List.exists_mem_of_ne_nil _ hne
        have hg := (sl_given hx hc0).1
        rw [e2, hg]
        unfold givL hostKids
        rw [hroot]
        show List.filter _ (l.getD (l.getD (topSt l k).toNat default).host.toNat default).kids = _
        refine List.filter_congr fun c hc => ?_
        have hkc := kid_above h ⟨hH, (host_in h htr rfl hH).1⟩ hc
        rw [Bool.eq_iff_iff, decide_eq_true_iff, decide_eq_true_iff]
        constructor
        · intro e3
          obtain ⟨r, z, hr, eh, hp, hz, hcz, e4⟩ := given_to e3 hk.1
          have e5 : r = topSt l k := (right_to h).one r _ hr htr (by omega) (by rw [eh, hkc.2.2.1])
          subst e5
          obtain rfl : z = y := sl_pl (ordS_nodup h htr) hz hy (e4.trans ey.symm)
          exact (sl_given hz hcz).2.2.1
        · intro e3
          have hcy : c ∈ y.given := by rw [hg]; exact List.mem_filter.2 ⟨hc, decide_eq_true e3⟩
          rw [(given_is h htr hH hy hcy).1, ey]
    · rw [if_neg g]
      by_cases t : 90 ≤ (l.getD k.toNat default).tag ∧ 0 ≤ (l.getD (topSt l k).toNat default).host
      · rw [if_pos t]
        rcases shownS_cases l k (topSt l k) with ⟨e, _⟩ | ⟨y, hy, ey, hne, _⟩
        · exact e.symm
        · obtain ⟨c, hc⟩ := List.exists_mem_of_ne_nil _ hne
          have htr := (topLn h k hk).2.1
          have h1 := given_of h hk t.2 hy hc
          have h2 := kid_above h ⟨t.2, h1.1⟩ h1.2
          refine absurd ((gv_iff k l.length).2 ⟨c.toNat, by omega, h2.2.1, ?_⟩) g
          rw [show ((c.toNat : Nat) : Int) = c by omega, (given_is h htr t.2 hy hc).1, ey]
      · rw [if_neg t]
def FlI (l : List Nd) (k : Int) (i : Nat) (L : List Int) : Prop := ∃ done rest : List Int, L = done ++ rest ∧ done.length = i ∧ done ++ rest.flatMap (flatP l) = flatP l k ∧ ∀ x ∈ rest, Under (shownL l) k x
theorem fl_0 (l : List Nd) (k : Int) : FlI l k 0 [k] := ⟨[], [k], rfl, rfl, by simp, fun x hx => by rw [List.mem_singleton] at hx; rw [hx]; exact .refl⟩
theorem flat_eq (h : checkSt l = 0) {k x : Int} (hk : 0 ≤ k ∧ k < (l.length : Int)) (u : Under (shownL l) k x) : flatP l x = x :: (shownL l x).flatMap (flatP l) := pre_eq (shown_ranked h hk) u
theorem flat_long (h : checkSt l = 0) {k : Int} (hk : 0 ≤ k ∧ k < (l.length : Int)) : ∀ rest : List Int, (∀ x ∈ rest, Under (shownL l) k x) → rest.length ≤ (rest.flatMap (flatP l)).length
  | [], _ => Nat.zero_le _
  | x :: r, u => by
    rw [List.flatMap_cons, List.length_append, flat_eq h hk (u x (.head _)), List.length_cons, List.length_cons]
    have := flat_long h hk r fun y hy => u y (.tail _ hy)
    omega
theorem fl_len (h : checkSt l = 0) {k : Int} {i : Nat} {L : List Int} (hk : 0 ≤ k ∧ k < (l.length : Int)) (I : FlI l k i L) : i ≤ L.length ∧ L.length ≤ (flatP l k).length := by
  obtain ⟨done, rest, rfl, hd, e, u⟩ := I
  have := flat_long h hk rest u
  rw [← e, List.length_append, List.length_append]
  omega
theorem fl_s (h : checkSt l = 0) {k : Int} {i : Nat} {L : List Int} (hk : 0 ≤ k ∧ k < (l.length : Int)) (I : FlI l k i L) (hi : i < L.length) :
    FlI l k (i + 1) (L.take (i + 1) ++ shownL l (L.getD i 0) ++ L.drop (i + 1)) ∧ Under (shownL l) k (L.getD i 0) := by
  obtain ⟨done, rest, rfl, hd, e, u⟩ := I
  cases rest with
  | nil => rw [List.append_nil] at hi; omega
  | cons x r =>
    have hx : (done ++ x :: r).getD i 0 = x := by
      rw [List.getD_eq_getElem?_getD, List.getElem?_append_right (by omega), show i - done.length = 0 by omega]; rfl
    have ht : (done ++ x :: r).take (i + 1) = done ++ [x] := by
      rw [List.take_append, List.take_of_length_le (by omega), show i + 1 - done.length = 1 by omega]; rfl
    have hdr : (done ++ x :: r).drop (i + 1) = r := by
      rw [List.drop_append, List.drop_of_length_le (by omega), show i + 1 - done.length = 1 by omega]; rfl
    have ux := u x (.head _)
    rw [hx, ht, hdr]
    refine ⟨⟨done ++ [x], shownL l x ++ r, by rw [List.append_assoc, List.append_assoc], by rw [List.length_append]; show done.length + 1 = i + 1; omega, ?_, fun y hy => ?_⟩, ux⟩
    · rw [← e]
      exact (flat_step (shown_ranked h hk) ux).symm
    · rcases List.mem_append.1 hy with hy | hy
      · exact .step ux hy
      · exact u y (.tail _ hy)
theorem fl_end {k : Int} {i : Nat} {L : List Int} (I : FlI l k i L) (hi : L.length ≤ i) : L = flatP l k := by
  obtain ⟨done, rest, rfl, hd, e, u⟩ := I
  have : rest = [] := List.eq_nil_of_length_eq_zero (by rw [List.length_append] at hi; omega)
  subst this
  exact e
def slotsK (l : List Nd) (k : Int) : List Sl := if rtI l k < 0 then [] else slotsR l (rtI l k)
def slotsSt (l : List Nd) (h : Hd) : List Sl × Int := if firstSt l [h] ≠ 0 then ([], firstSt l [h]) else (slotsK l h.pl, 0)
def givenSt (l : List Nd) (h : Hd) : Int × Int := if firstSt l [h] ≠ 0 then (0, firstSt l [h]) else (givenI l h.pl, 0)
def flatSt (l : List Nd) (h : Hd) : List Int × Int := if firstSt l [h] ≠ 0 then ([], firstSt l [h]) else (flatP l h.pl, 0)
theorem slots_1 {h : Hd} (q : ¬ firstSt l [h] = 0) : slotsSt l h = ([], firstSt l [h]) := if_pos q
theorem slots_2 {h : Hd} (q : firstSt l [h] = 0) : slotsSt l h = (slotsK l h.pl, 0) := if_neg (not_not_intro q)
theorem given_1 {h : Hd} (q : ¬ firstSt l [h] = 0) : givenSt l h = (0, firstSt l [h]) := if_pos q
theorem given_2 {h : Hd} (q : firstSt l [h] = 0) : givenSt l h = (givenI l h.pl, 0) := if_neg (not_not_intro q)
theorem flat_1 {h : Hd} (q : ¬ firstSt l [h] = 0) : flatSt l h = ([], firstSt l [h]) := if_pos q
theorem flat_2 {h : Hd} (q : firstSt l [h] = 0) : flatSt l h = (flatP l h.pl, 0) := if_neg (not_not_intro q)
theorem slotsK_0 {k : Int} (q : rtI l k < 0) : slotsK l k = [] := if_pos q
theorem slotsK_1 {k : Int} (q : ¬ rtI l k < 0) : slotsK l k = slotsR l (rtI l k) := if_neg q
end
end Go.Proofs.Ytmcdamcedemdiaa
namespace Go.Proofs.Ytmcdamcedemdiaa
open Go.RowKit Go.Eng
def off (B L : List Int) : List Int := L.filter fun x => !decide (x ∈ B)
section
variable {l a : List Nd} {p c : Hd} {ah : List Hd}
theorem hold_k {l : List Nd} (h : checkSt l = 0) {k : Nat} (hk : k < l.length) (hu : (l.getD k default).used = true) : holdsSt l ⟨(k : Int), (l.getD k default).uses⟩ = 0 := by
  have n1 := nodesErr_at (checkSt_nodes h) hk
  have h1 := n1.uses; have h2 := n1.use hu
  refine holds_0 ?_ ?_
  · simp only [holdsWho, Bool.or_eq_false_iff, decide_eq_false_iff_not, Int.toNat_natCast]; omega
  · simp only [holdsGone, Int.toNat_natCast, hu, decide_true, Bool.not_true, Bool.or_self]
end
end Go.Proofs.Ytmcdamcedemdiaa
namespace Go.Proofs.Ytmcdamcedemdiaa
open Go.RowKit Go.Eng
section
variable {l : List Nd} {h : Hd} {q : List Te} {t : Te}
theorem first_in {k : Int} (hc : checkSt l = 0) (hk : 0 ≤ k ∧ k < (l.length : Int)) (hu : (l.getD k.toNat default).used = true) : firstSt l [⟨k, (l.getD k.toNat default).uses⟩] = 0 := by
  have hh : holdsSt l ⟨k, (l.getD k.toNat default).uses⟩ = 0 := by
    have := hold_k hc (k := k.toNat) (by omega) hu
    rwa [show ((k.toNat : Nat) : Int) = k by omega] at this
  show [(⟨k, (l.getD k.toNat default).uses⟩ : Hd)].foldl (stepH l) (checkSt l) = 0
  rw [hc]
  show stepH l 0 _ = 0
  unfold stepH
  rw [if_pos rfl, hh]
end
end Go.Proofs.Ytmcdamcedemdiaa
namespace Go.Proofs.Ytmcdamcedemdiaa
open Go.RowKit Go.Eng
section
variable {l : List Nd} {H : Int}
theorem slotsL_s {L : List Int} {i : Nat} (h : i < L.length) : slotsL l H (L.take (i + 1)) = slStep l H (slotsL l H (L.take i)) (L.getD i 0) := by
  unfold slotsL; rw [foldl_take_s _ _ 0 _ _ h]
theorem slStep_no {S : List Sl} {k : Int} (h : (l.getD k.toNat default).tag < 90) : slStep l H S k = S := if_pos h
theorem slStep_new {S : List Sl} {k : Int} (h : ¬ (l.getD k.toNat default).tag < 90) (t : (S.any fun y => decide (y.num = (l.getD k.toNat default).tag - 90)) = false) : slStep l H S k = S ++ [⟨k, (l.getD k.toNat default).tag - 90, givL l H ((l.getD k.toNat default).tag - 90)⟩] := by
  unfold slStep; rw [if_neg h, if_neg (ff t)]
theorem slStep_old {S : List Sl} {k : Int} (h : ¬ (l.getD k.toNat default).tag < 90) (t : (S.any fun y => decide (y.num = (l.getD k.toNat default).tag - 90)) = true) : slStep l H S k = S ++ [⟨k, (l.getD k.toNat default).tag - 90, []⟩] := by
  unfold slStep; rw [if_neg h, if_pos t]
theorem slotsL_len : ∀ (L : List Int), (slotsL l H L).length ≤ L.length := fun L => by
  have I := slInv l H L
  have := congrArg List.length I.pls
  rw [List.length_map] at this
  rw [this]; exact List.length_filter_le _ _
def markF (l : List Nd) (n : Int) : Int → Bool := fun c => decide ((l.getD c.toNat default).mark = n)
theorem filt_1 {p : Int → Bool} {K : List Int} {j : Nat} (h : j < K.length) (e : p (K.getD j 0) = true) : (K.take j).filter p ++ [K.getD j 0] = (K.take (j + 1)).filter p := by
  rw [take_s 0 h, List.filter_append, List.filter_cons_of_pos e, List.filter_nil]
theorem filt_2 {p : Int → Bool} {K : List Int} {j : Nat} (h : j < K.length) (e : p (K.getD j 0) = false) : (K.take j).filter p = (K.take (j + 1)).filter p := by
  rw [take_s 0 h, List.filter_append, List.filter_cons_of_neg (ff e), List.filter_nil, List.append_nil]
theorem filt_e {n : Int} {j : Nat} (h : (l.getD H.toNat default).kids.length ≤ j) : ((l.getD H.toNat default).kids.take j).filter (markF l n) = givL l H n := by
  rw [List.take_of_length_le h]; rfl
def tkM (S : List Sl) : List (Int × Bool) := S.foldl (fun m y => kput m y.num true) []
theorem tkM_app (S : List Sl) (x : Sl) : tkM (S ++ [x]) = kput (tkM S) x.num true := by unfold tkM; rw [List.foldl_append]; rfl
theorem tkM_get (j : Int) : ∀ (S : List Sl) (m : List (Int × Bool)), (kget (S.foldl (fun m y => kput m y.num true) m) j).getD false = ((S.any fun y => decide (y.num = j)) || (kget m j).getD false)
  | [], m => rfl
  | y :: r, m => by
    rw [List.foldl_cons, tkM_get j r, kget_put, List.any_cons]
    by_cases e : j = y.num
    · rw [if_pos e, decide_eq_true e.symm]; simp
    · rw [if_neg e, decide_eq_false fun q => e q.symm, Bool.false_or]
theorem tkM_any (S : List Sl) (j : Int) : (kget (tkM S) j).getD false = S.any fun y => decide (y.num = j) := by
  rw [tkM, tkM_get]
  show (_ || (kget ([] : List (Int × Bool)) j).getD false) = _
  rw [show kget ([] : List (Int × Bool)) j = none from rfl]; simp
def freeF (l : List Nd) (S : List Sl) (n : Int) : Int → Bool := fun c => !((kget (tkM S) n).getD false) && decide ((l.getD c.toNat default).mark = n)
theorem free_e {S : List Sl} {n : Int} {j : Nat} (h : (l.getD H.toNat default).kids.length ≤ j) : ((l.getD H.toNat default).kids.take j).filter (freeF l S n) = if (S.any fun y => decide (y.num = n)) = true then [] else givL l H n := by
  rw [List.take_of_length_le h]
  by_cases t : (S.any fun y => decide (y.num = n)) = true
  · rw [if_pos t, List.filter_eq_nil_iff]
    intro c _
    unfold freeF
    rw [tkM_any, t]; exact fun q => by cases q
  · rw [if_neg t]
    unfold givL
    refine List.filter_congr fun c _ => ?_
    show freeF l S n c = _
    unfold freeF
    rw [tkM_any, Bool.eq_false_iff.2 t]; rfl
theorem slStep_doc {S : List Sl} {k : Int} {j : Nat} (h : ¬ (l.getD k.toNat default).tag < 90) (hj : (l.getD H.toNat default).kids.length ≤ j) : slStep l H S k = S ++ [⟨k, (l.getD k.toNat default).tag - 90, ((l.getD H.toNat default).kids.take j).filter (freeF l S ((l.getD k.toNat default).tag - 90))⟩] := by
  unfold slStep; rw [if_neg h, free_e hj]
def inG (k : Int) (x : Sl) : Bool := decide (k ∈ x.given)
def giv (S : List Sl) (k : Int) : Int := if idxF (inG k) S < 0 then -1 else (S.getD (idxF (inG k) S).toNat default).pl
theorem giv_hit {S : List Sl} {k : Int} {i : Nat} (hi : i < S.length) (h : ∀ j, j < i → inG k (S.getD j default) = false) (e : inG k (S.getD i default) = true) : giv S k = (S.getD i default).pl := by
  unfold giv; rw [idxF_hit default hi h e, if_neg (by omega), Int.toNat_natCast]
theorem giv_none {S : List Sl} {k : Int} {i : Nat} (hi : S.length ≤ i) (h : ∀ j, j < i → inG k (S.getD j default) = false) : giv S k = -1 := by
  unfold giv; rw [idxF_none default h hi, if_pos (by omega)]
theorem givenI_n {k : Int} (a : (l.getD k.toNat default).par < 0) : givenI l k = -1 := if_pos a
theorem givenI_r {k : Int} (a : ¬ (l.getD k.toNat default).par < 0) (b : rtI l (l.getD k.toNat default).par < 0) : givenI l k = -1 := by unfold givenI; rw [if_neg a, if_pos b]
theorem givenI_s {k : Int} (a : ¬ (l.getD k.toNat default).par < 0) (b : ¬ rtI l (l.getD k.toNat default).par < 0) : givenI l k = giv (slotsR l (rtI l (l.getD k.toNat default).par)) k := by
  unfold givenI; rw [if_neg a, if_neg b]; rfl
theorem givenI_p {k : Int} (a : ¬ (l.getD k.toNat default).par < 0) : givenI l k = giv (slotsK l (l.getD k.toNat default).par) k := by
  by_cases b : rtI l (l.getD k.toNat default).par < 0
  · rw [givenI_r a b, slotsK_0 b]; rfl
  · rw [givenI_s a b, slotsK_1 b]
theorem rt_ge (l : List Nd) (k : Int) : -1 ≤ rtI l k ∧ rtI l k < (l.length : Int) := by
  rcases idxF_cases (fun n : Nd => decide (n.host = k)) default l with ⟨e, _⟩ | ⟨i, e, hi, _⟩
  · have e : rtI l k = -1 := e
    omega
  · have e : rtI l k = (i : Int) := e
    omega
theorem rt_all (h : checkSt l = 0) {k : Int} (hk : 0 ≤ k ∧ k < (l.length : Int)) (q : 0 ≤ rtI l k) : (0 ≤ rtI l k ∧ rtI l k < (l.length : Int)) ∧ (l.getD (rtI l k).toNat default).host = k ∧ (l.getD (rtI l k).toNat default).used = true := by
  have hh := rt_hit q
  exact ⟨⟨q, hh.1⟩, hh.2, (host_in h ⟨q, hh.1⟩ hh.2 hk.1).2.2.2⟩
theorem root_all (h : checkSt l = 0) {r : Int} (hr : 0 ≤ r ∧ r < (l.length : Int)) (hH : 0 ≤ (l.getD r.toNat default).host) : (l.getD r.toNat default).used = true ∧ (l.getD r.toNat default).host < (l.length : Int) := by
  have := host_in h hr rfl hH
  exact ⟨this.2.2.2, this.1⟩
theorem ord_self (h : checkSt l = 0) {r : Int} (hr : 0 ≤ r ∧ r < (l.length : Int)) (hu : (l.getD r.toNat default).used = true) : orderSt l ⟨r, (l.getD r.toNat default).uses⟩ = (ordSt l r, 0) := order_2 (h := ⟨r, (l.getD r.toNat default).uses⟩) (first_in h hr hu)
theorem ordm_in (h : checkSt l = 0) {r : Int} (hr : 0 ≤ r ∧ r < (l.length : Int)) {i : Nat} (hi : i < (ordSt l r).length) : 0 ≤ (ordSt l r).getD i 0 ∧ (ordSt l r).getD i 0 < (l.length : Int) := ord_in h _ r hr _ (mem_getD hi)
theorem kidm_in (h : checkSt l = 0) {k : Int} (hk : 0 ≤ k ∧ k < (l.length : Int)) {j : Nat} (hj : j < (l.getD k.toNat default).kids.length) : 0 ≤ (l.getD k.toNat default).kids.getD j 0 ∧ (l.getD k.toNat default).kids.getD j 0 < (l.length : Int) := (kid_up h hk (mem_getD hj)).1
theorem shown_r {k : Int} (q : 0 ≤ rtI l k) : shownL l k = (l.getD (rtI l k).toNat default).kids := if_pos q
theorem shown_hit {k : Int} {i : Nat} (q : ¬ 0 ≤ rtI l k) (t : 90 ≤ (l.getD k.toNat default).tag ∧ 0 ≤ (l.getD (topSt l k).toNat default).host) (hi : i < (slotsR l (topSt l k)).length) (h : ∀ j, j < i → inSlot k ((slotsR l (topSt l k)).getD j default) = false)
    (e : inSlot k ((slotsR l (topSt l k)).getD i default) = true) : shownL l k = ((slotsR l (topSt l k)).getD i default).given := by
  unfold shownL; rw [if_neg q, if_pos t]
  unfold shownS; rw [idxF_hit default hi h e, if_neg (by omega), Int.toNat_natCast]
theorem shown_none {k : Int} {i : Nat} (q : ¬ 0 ≤ rtI l k) (t : 90 ≤ (l.getD k.toNat default).tag ∧ 0 ≤ (l.getD (topSt l k).toNat default).host) (hi : (slotsR l (topSt l k)).length ≤ i) (h : ∀ j, j < i → inSlot k ((slotsR l (topSt l k)).getD j default) = false) : shownL l k = (l.getD k.toNat default).kids := by
  unfold shownL; rw [if_neg q, if_pos t]
  unfold shownS; rw [idxF_none default h hi, if_pos (by omega)]
theorem shown_k {k : Int} (q : ¬ 0 ≤ rtI l k) (t : ¬ (90 ≤ (l.getD k.toNat default).tag ∧ 0 ≤ (l.getD (topSt l k).toNat default).host)) : shownL l k = (l.getD k.toNat default).kids := by
  unfold shownL; rw [if_neg q, if_neg t]
theorem doc_r (h : checkSt l = 0) {n : Nat} {k : Int} (hk : 0 ≤ k ∧ k < (l.length : Int)) (q : 0 ≤ rtI l k) : preN (shownL l) (n + 1) k = k :: (l.getD (rtI l k).toNat default).kids.flatMap (preN (shownL l) n) := by
  show k :: _ = _
  rw [shown_r q]
theorem doc_g (h : checkSt l = 0) {n : Nat} {k : Int} (hk : 0 ≤ k ∧ k < (l.length : Int)) (q : ¬ 0 ≤ rtI l k) (g : (kget (gvM l l.length) k).getD false = true) : preN (shownL l) (n + 1) k = k :: ((hostKids l k).filter (fun c => decide (givenI l c = k))).flatMap (preN (shownL l) n) := by
  show k :: _ = _
  rw [← doc_eq h hk]
  unfold docL; rw [if_neg q, if_pos g]
theorem doc_k (h : checkSt l = 0) {n : Nat} {k : Int} (hk : 0 ≤ k ∧ k < (l.length : Int)) (q : ¬ 0 ≤ rtI l k) (g : (kget (gvM l l.length) k).getD false = false) : preN (shownL l) (n + 1) k = k :: (l.getD k.toNat default).kids.flatMap (preN (shownL l) n) := by
  show k :: _ = _
  rw [← doc_eq h hk]
  unfold docL; rw [if_neg q, if_neg (ff g)]
theorem sh_mem (h : checkSt l = 0) {k c : Int} (hk : 0 ≤ k ∧ k < (l.length : Int)) (hc : c ∈ shownL l k) : (0 ≤ c ∧ c < (l.length : Int)) ∧ rk l k < rk l c := ⟨(sh_in h hk (sh_cases hc)).1, sh_rank h hk (sh_cases hc)⟩
def givF (l : List Nd) (k : Int) : Int → Bool := fun c => decide (givenI l c = k)
theorem slotsR_len (h : checkSt l = 0) {r : Int} (hr : 0 ≤ r ∧ r < (l.length : Int)) : (slotsR l r).length ≤ 24 := by
  have h1 := slotsL_len (l := l) (H := (l.getD r.toNat default).host) (ordSt l r)
  have h2 := ord_len h hr
  have h3 := checkSt_len h
  show (slotsL l _ (ordSt l r)).length ≤ 24
  omega
theorem slotsK_len (h : checkSt l = 0) {k : Int} (hk : 0 ≤ k ∧ k < (l.length : Int)) : (slotsK l (l.getD k.toNat default).par).length ≤ 24 := by
  by_cases q : rtI l (l.getD k.toNat default).par < 0
  · rw [slotsK_0 q]; exact Nat.zero_le _
  · rw [slotsK_1 q]
    have := rt_ge l (l.getD k.toNat default).par
    exact slotsR_len h ⟨by omega, this.2⟩
theorem inSlot_t {k : Int} {x : Sl} (e : (decide (x.pl = k) && decide (0 < (x.given.length : Int))) = true) : inSlot k x = true := by
  rw [Bool.and_eq_true, decide_eq_true_iff, decide_eq_true_iff] at e
  unfold inSlot
  rw [decide_eq_true e.1, decide_eq_true (show 0 < x.given.length by omega)]; rfl
theorem inSlot_f {k : Int} {x : Sl} (e : (decide (x.pl = k) && decide (0 < (x.given.length : Int))) = false) : inSlot k x = false := by
  cases hx : inSlot k x with
  | false => rfl
  | true =>
    unfold inSlot at hx
    rw [Bool.and_eq_true, decide_eq_true_iff, decide_eq_true_iff] at hx
    rw [decide_eq_true hx.1, decide_eq_true (show 0 < (x.given.length : Int) by omega)] at e
    cases e
theorem preO_pos (n : Nat) (k : Int) : 0 < (preN (shownL l) (n + 1) k).length := by
  show 0 < (k :: _).length
  rw [List.length_cons]; omega
theorem doc_at (h : checkSt l = 0) {k : Int} (hk : 0 ≤ k ∧ k < (l.length : Int)) (g : (kget (gvM l l.length) k).getD false = true) : 0 < (rootsL l k).length ∧ (0 ≤ (rootsL l k).getD 0 0 ∧ (rootsL l k).getD 0 0 < (l.length : Int)) ∧
    (0 ≤ (l.getD ((rootsL l k).getD 0 0).toNat default).host ∧ (l.getD ((rootsL l k).getD 0 0).toNat default).host < (l.length : Int)) := by
  obtain ⟨hH, htr, hroot, _⟩ := doc_given h hk g
  rw [hroot]
  exact ⟨by rw [List.length_cons]; omega, htr, hH, (host_in h htr rfl hH).1⟩
theorem doc_gl {k : Int} (q : ¬ 0 ≤ rtI l k) (g : (kget (gvM l l.length) k).getD false = true) : docL l k = (hostKids l k).filter (fun c => decide (givenI l c = k)) := by
  unfold docL; rw [if_neg q, if_pos g]
theorem shown_d (h : checkSt l = 0) {k : Int} (hk : 0 ≤ k ∧ k < (l.length : Int)) (q : ¬ 0 ≤ rtI l k) (g : (kget (gvM l l.length) k).getD false = false) : shownL l k = (l.getD k.toNat default).kids := by
  rw [← doc_eq h hk]; unfold docL; rw [if_neg q, if_neg (ff g)]
theorem flat_filt_le {f : Int → List Int} {p : Int → Bool} (K : List Int) (j : Nat) : (((K.take j).filter p).flatMap f).length ≤ ((K.filter p).flatMap f).length := by
  have : K.filter p = (K.take j).filter p ++ (K.drop j).filter p := by rw [← List.filter_append, List.take_append_drop]
  rw [this, List.flatMap_append, List.length_append]; omega
end
end Go.Proofs.Ytmcdamcedemdiaa
namespace Go.Proofs.Ytmcdamcedemdiaa
open Go.RowKit Go.Eng
theorem hostIs_ct (n : Nd) (k : Int) : Ct Try.prog 141 [SV.agg 8 (ndCell n), elB [iv (k)] 0] (bv (decide (n.host = k))) := by
 exact CtO 8 Try.func141 rfl rfl rfl fun E => row_lenA 5 (V (s := 0) rfl) rfl rfl fun hl0_5 => Sq <| Rt <| BxA 1 (V rfl) rfl rfl <| U (As K) <| Nt <| Sq <| Rq <| O (FlB _ _ (V rfl) Un61 rfl 0 Sz3) <| O (LdB (V rfl) rfl Ga3 (by decide)) <| O (Ld (V rfl) Ga3 (by show 0 < 1; decide)) <| O (Ql (V rfl) (V rfl)) <| O (As (V rfl)) <| Nq <| Rx <| R1 rfl (V rfl) rfl (by show bv (decide (n.host = k)) = bv (decide (n.host = k)); rfl)
theorem root_ct (l : List Nd) (k : Int) : Ct Try.prog 96 [SV.agg 1 (stG l), iv (k)] (iv (rtI l k)) := by
 exact CtO 9 Try.func96 rfl rfl rfl fun E => row_lenA 0 (V (s := 0) rfl) rfl rfl fun hl0_0 => Sq <| Rt <| BxA 1 (V rfl) rfl rfl <| Bx1 2 (V rfl) rfl rfl rfl <| U (As K) <| Nt <| Sq <| c_frzB 2 [iv (k)] rfl rfl ⟨Z, rfl⟩ rfl <| Rt <| U (FlB _ _ (V rfl) Un24 rfl 0 Sz22) <| U (LdB (V rfl) rfl Ga22 (by decide)) <| U (Mk (caps := [elB [iv (k)] 0]) ⟨(V rfl), Z⟩) <| CT en113 (by exact ⟨⟨(V rfl), rfl⟩, ⟨(VA (VF [elB [iv (k)] 0] ((V rfl)) (An rfl)) rfl), rfl⟩, Z⟩) (idxf113_ct (fun n : Nd => decide (n.host = k)) en141 rfl (fun x => hostIs_ct x k) l) <| U (As (V rfl)) <| Nt <| Rx <| R1 rfl (V rfl) rfl (by show iv (idxF (fun n : Nd => decide (n.host = k)) l) = iv (rtI l k); rfl)
theorem rootR_ct (l : List Nd) (k : Int) : Ct Try.prog 102 [SV.agg 1 (stG l), iv (k)] (iv (rtI l k)) := by
 refine CtO 21 Try.func102 rfl rfl rfl fun E => row_lenA 0 (V (s := 0) rfl) rfl rfl fun hl0_0 => Sq <| Rt <| BxA 1 (V rfl) rfl rfl <| U (As K) <| Nt <| Sq <| Sq <| Rq <| O (FlB _ _ (V rfl) Un24 rfl 0 Sz22) <| O (LdB (V rfl) rfl Ga22 (by decide)) <| O (Ln (V rfl) ts22) <| O (Mv K) <| Nq <| Bo <| Lo (fun (i : Nat) => ⟨[(1, iv (k)), (8, ndRow l), (9, iv ((l.length : Int))), (10, iv ((i : Int)))], []⟩) (fun (i : Nat) => i ≤ l.length ∧ ∀ j, j < i → (fun n : Nd => decide (n.host = k)) (l.getD j default) = false) (fun (i : Nat) => l.length - i) 0 (by show 0 ≤ l.length ∧ ∀ j, j < 0 → (fun n : Nd => decide (n.host = k)) (l.getD j default) = false; exact ⟨Nat.zero_le _, fun j hj => absurd hj (Nat.not_lt_zero _)⟩) (We (Vs rfl) Z) <| ?_
 ·rintro i hI1
  have hJ1 : i ≤ l.length ∧ ∀ j, j < i → (fun n : Nd => decide (n.host = k)) (l.getD j default) = false := hI1
  have hi1 := hJ1.1
  have hall := hJ1.2
  refine Sq <| Rq <| O (Lt (V rfl) (V rfl)) <| Nq <| Sq <| Cd (V rfl) (fun hc1 => ?_) (fun hc1 => ?_)
  ·have hc1s := hc1; try simp only [BL] at hc1s
   refine Sk <| Sq <| Bo <| Sq <| Rt <| U (Mv (V rfl)) <| U (IxN (i := i) (V rfl) (V rfl) ts22 te22 (by clear hall hJ1 hI1; omega)) <| U (LdA (V rfl) Ga61 Sz61 (by decide)) <| Al 2 zero61 rfl rfl <| U (As (V rfl)) <| StA (V rfl) rfl (V rfl) Sz61 <| Nt <| Sq <| Rq <| O (FlB _ _ (V rfl) Un61 rfl 0 Sz3) <| O (LdB (V rfl) rfl Ga3 (by decide)) <| O (Mv (V rfl)) <| O (Ql (V rfl) (V rfl)) <| Nq <| Cd (V rfl) (fun hc2 => ?_) (fun hc2 => ?_)
   ·have hc2s := hc2; try simp only [BL] at hc2s
    exact Sq <| Rq <| O (Mv (V rfl)) <| O (As (V rfl)) <| Nq <| Rx <| R1 rfl (V rfl) rfl (by show iv ((i : Int)) = iv (rtI l k); rw [rtI, idxF_hit (p := (fun n : Nd => decide (n.host = k))) default (by clear hall hJ1 hI1; omega) hall hc2])
   ·have hc2s := hc2; try simp only [BL] at hc2s
    exact Sk <| Rq <| O (Ad (V rfl) K (by clear hall hJ1 hI1; omega)) <| O (Mv (V rfl)) <| Nq <| Nx (i + 1) (by show (i + 1) ≤ l.length ∧ ∀ j, j < (i + 1) → (fun n : Nd => decide (n.host = k)) (l.getD j default) = false; exact ⟨by clear hall hJ1 hI1; omega, idxF_s (p := (fun n : Nd => decide (n.host = k))) hall hc2⟩) (by show l.length - (i + 1) < l.length - i; clear hall hJ1 hI1; omega) (We (Vs rfl) Z)
  ·have hc1s := hc1; try simp only [BL] at hc1s
   exact Ex <| Sq <| Rq <| O (As K) <| Nq <| Rx <| R1 rfl (V rfl) rfl (by show iv ((-1)) = iv (rtI l k); rw [rtI, idxF_none (p := (fun n : Nd => decide (n.host = k))) default hall (by clear hall hJ1 hI1; omega)])
theorem idxf152_ct {f : FuncId} {caps : List SV} (p : Sl → Bool) (hE : Enters Try.prog f) (hro : allRO caps = true) (hC : ∀ x, Ct Try.prog f ([.agg 3 (slCell x)] ++ caps) (bv (p x))) (l : List Sl) : Ct Try.prog 152 [slRow l, fnA f caps] (iv (idxF p l)) := by
 refine CtO 19 Try.func152 rfl rfl rfl fun E => Rl (V (s := 0) rfl) fun hl0 => Sq <| Rq <| O (As K) <| Nq <| Sq <| Sq <| Rq <| O (Mv (V rfl)) <| O (Ln (V rfl) ts27) <| O (Mv K) <| Nq <| Bo <| Lo (fun (i : Nat) => ⟨[(0, slRow l), (1, fnA f caps), (7, iv ((l.length : Int))), (8, iv ((i : Int)))], []⟩) (fun (i : Nat) => i ≤ l.length ∧ ∀ j, j < i → p (l.getD j default) = false) (fun (i : Nat) => l.length - i) 0 (by show 0 ≤ l.length ∧ ∀ j, j < 0 → p (l.getD j default) = false; exact ⟨Nat.zero_le _, fun j hj => absurd hj (Nat.not_lt_zero _)⟩) (We (Vs rfl) Z) <| ?_
 ·rintro i hI1
  have hJ1 : i ≤ l.length ∧ ∀ j, j < i → p (l.getD j default) = false := hI1
  have hi1 := hJ1.1
  have hall := hJ1.2
  refine Sq <| Rq <| O (Lt (V rfl) (V rfl)) <| Nq <| Sq <| Cd (V rfl) (fun hc1 => ?_) (fun hc1 => ?_)
  ·have hc1s := hc1; try simp only [BL] at hc1s
   refine Sk <| Sq <| Bo <| Sq <| Rq <| O (Mv (V rfl)) <| O (As (V rfl)) <| Nq <| Sq <| Rq <| O (Mv (V rfl)) <| O (Mv (V rfl)) <| O (Mv (V rfl)) <| O (IxN (i := i) (V rfl) (V rfl) ts27 te27 (by clear hall hJ1 hI1; omega)) <| O (LdA (V rfl) Ga41 Sz41 (by decide)) <| CQv (args := [SV.agg 3 (slCell ⟨(l.getD i default).pl, (l.getD i default).num, (l.getD i default).given⟩)]) (caps := caps) (fnval_A (V rfl)) hro hE (by exact ⟨⟨(Vi (g' := slCell ⟨(l.getD i default).pl, (l.getD i default).num, (l.getD i default).given⟩) (V rfl) ⟨⟨⟨Z, Ir⟩, Ir⟩, Ir⟩), rfl⟩, Z⟩) (hC (l.getD i default)) <| Nq <| Cd (V rfl) (fun hc2 => ?_) (fun hc2 => ?_)
   ·have hc2s := hc2; try simp only [BL] at hc2s
    exact Sq <| Rq <| O (Mv (V rfl)) <| O (As (V rfl)) <| Nq <| Rx <| R1 rfl (V rfl) rfl (by show iv ((i : Int)) = iv (idxF p l); rw [idxF_hit default (by clear hall hJ1 hI1; omega) hall hc2])
   ·have hc2s := hc2; try simp only [BL] at hc2s
    exact Sk <| Rq <| O (Ad (V rfl) K (by clear hall hJ1 hI1; omega)) <| O (Mv (V rfl)) <| Nq <| Nx (i + 1) (by show (i + 1) ≤ l.length ∧ ∀ j, j < (i + 1) → p (l.getD j default) = false; exact ⟨by clear hall hJ1 hI1; omega, idxF_s hall hc2⟩) (by show l.length - (i + 1) < l.length - i; clear hall hJ1 hI1; omega) (We (Vs rfl) Z)
  ·have hc1s := hc1; try simp only [BL] at hc1s
   exact Ex <| Sq <| Rq <| O (As K) <| Nq <| Rx <| R1 rfl (V rfl) rfl (by show iv ((-1)) = iv (idxF p l); rw [idxF_none default hall (by clear hall hJ1 hI1; omega)])
theorem conf142_ct {f : FuncId} {caps : List SV} (p : Sl → Bool) (hE : Enters Try.prog f) (hro : allRO caps = true) (hC : ∀ x, Ct Try.prog f ([.agg 3 (slCell x)] ++ caps) (bv (p x))) (l : List Sl) : Ct Try.prog 142 [slRow l, fnA f caps] (bv (l.any p)) := by
 exact CtO 9 Try.func142 rfl rfl rfl fun E => Rl (V (s := 0) rfl) fun hl0 => Sq <| Rq <| O (As K) <| Nq <| Sq <| Rq <| O (Mv (V rfl)) <| O (Mv (V rfl)) <| CQ en152 (by exact ⟨⟨(V rfl), rfl⟩, ⟨(V rfl), rfl⟩, Z⟩) (idxf152_ct p hE hro hC l) <| O (Ge (V rfl) K) <| O (As (V rfl)) <| Nq <| Rx <| R1 rfl (V rfl) rfl (by show bv (decide (0 ≤ idxF p l)) = bv (l.any p); exact congrArg bv (idxF_any p l))
theorem sameNum_ct (y : Sl) (a b : Int) : Ct Try.prog 143 [SV.agg 3 (slCell y), elB [iv (a), iv (b), SV.v (Value.slice none 0 0)] 0] (bv (decide (y.num = b))) := by
 exact CtO 9 Try.func143 rfl rfl rfl fun E => row_lenA 2 (V (s := 0) rfl) rfl rfl fun hl0_2 => Sq <| Rt <| BxA 1 (V rfl) rfl rfl <| U (As K) <| Nt <| Sq <| Rq <| O (FlB _ _ (V rfl) Un41 rfl 0 Sz3) <| O (LdB (V rfl) rfl Ga3 (by decide)) <| O (Fl _ _ (V rfl) Un41 rfl 0 Sz3) <| O (Ld (V rfl) Ga3 (by show 1 < 3; decide)) <| O (Ql (V rfl) (V rfl)) <| O (As (V rfl)) <| Nq <| Rx <| R1 rfl (V rfl) rfl (by show bv (decide (y.num = b)) = bv (decide (y.num = b)); rfl)
theorem slots_ct (l : List Nd) (r : Int) (hc : checkSt l = 0) (hr : 0 ≤ r ∧ r < (l.length : Int)) (hH : 0 ≤ (l.getD (Int.toNat r) default).host) (hb : ∀ n ∈ l, n.kids.length ≤ 17592186043904) : Ct Try.prog 97 [SV.agg 1 (stG l), iv (r)] (slRow (slotsR l r)) := by
 have h24 := checkSt_len hc
 have hra := root_all hc hr hH
 have hol := ord_len hc hr
 have hkf := kids_few hc (i := Int.toNat (l.getD (Int.toNat r) default).host) (by omega)
 refine CtO 92 Try.func97 rfl rfl rfl fun E => row_lenA 0 (V (s := 0) rfl) rfl rfl fun hl0_0 => Sq <| Rt <| BxA 1 (V rfl) rfl rfl <| U (As (Vn (k := 3) (get := rowG slCell default []))) <| Nt <| Sq <| Rq <| O (FlB _ _ (V rfl) Un24 rfl 0 Sz22) <| O (LdB (V rfl) rfl Ga22 (by decide)) <| O (Mv (V rfl)) <| O (Ix (V rfl) (V rfl) ts22 te22 (by omega) (by omega)) <| O (Fl _ _ (V rfl) Un61 rfl 0 Sz3) <| O (Ld (V rfl) Ga3 (by decide)) <| O (As (V rfl)) <| Nq <| Sq <| c_rd (fun e => ⟨[(21, cj (e 0) (SV.agg 1 (fun zi => (stG l) (0 + zi)))), (22, cj (e 1) (iv (r))), (23, cj (e 2) (SV.bp 1 0)), (24, cj (e 3) (ndRow l)), (25, cj (e 4) (iv (r))), (26, cj (e 5) (SV.el l.length 8 (rowG ndCell default l) (Int.toNat r) 0)), (27, cj (e 6) (SV.el l.length 8 (rowG ndCell default l) (Int.toNat r) 1)), (28, cj (e 7) (iv ((l.getD (Int.toNat r) default).uses))), (29, cj (e 8) (SV.agg 2 (hdCell ⟨r, (l.getD (Int.toNat r) default).uses⟩))), (30, cj (e 9) (SV.renm (rn [(0, 2)]) (sv2 (SV.own 0) (iv (orderSt l ⟨r, (l.getD (Int.toNat r) default).uses⟩).2)))), (20, cj (e 10) (SV.renm (rn [(0, 2)]) (sv2 (SV.own 0) (iv (orderSt l ⟨r, (l.getD (Int.toNat r) default).uses⟩).2)))), (31, cj (e 11) (SV.own 2)), (32, cj (e 12) (iv ((orderSt l ⟨r, (l.getD (Int.toNat r) default).uses⟩).2))), (6, cj (e 13) (SV.own 2)), (7, cj (e 14) (iv ((orderSt l ⟨r, (l.getD (Int.toNat r) default).uses⟩).2))), (1, iv (r)), (2, SV.bp 1 0), (5, iv ((l.getD (Int.toNat r) default).host))], (cb (e 9) [(1, Own.box 1 (stG l) 24), (2, ownOf inCell 1 0 ((orderSt l ⟨r, (l.getD (Int.toNat r) default).uses⟩).1) 3)] [(1, Own.box 1 (stG l) 24)])⟩) ⟨[(21, SV.agg 1 (fun zi => (stG l) (0 + zi))), (22, iv (r)), (23, SV.bp 1 0), (24, ndRow l), (25, iv (r)), (26, SV.el l.length 8 (rowG ndCell default l) (Int.toNat r) 0), (27, SV.el l.length 8 (rowG ndCell default l) (Int.toNat r) 1), (28, iv ((l.getD (Int.toNat r) default).uses)), (29, SV.agg 2 (hdCell ⟨r, (l.getD (Int.toNat r) default).uses⟩)), (30, SV.renm (rn [(0, 2)]) (sv2 (SV.own 0) (iv (orderSt l ⟨r, (l.getD (Int.toNat r) default).uses⟩).2))), (20, SV.renm (rn [(0, 2)]) (sv2 (SV.own 0) (iv (orderSt l ⟨r, (l.getD (Int.toNat r) default).uses⟩).2))), (31, SV.own 2), (32, iv ((orderSt l ⟨r, (l.getD (Int.toNat r) default).uses⟩).2)), (6, SV.own 2), (7, iv ((orderSt l ⟨r, (l.getD (Int.toNat r) default).uses⟩).2)), (1, iv (r)), (2, SV.bp 1 0), (5, iv ((l.getD (Int.toNat r) default).host))], [(1, Own.box 1 (stG l) 24), (2, ownOf inCell 1 0 ((orderSt l ⟨r, (l.getD (Int.toNat r) default).uses⟩).1) 3)]⟩ (by kernel_rfl) (by kernel_rfl) ?_ ⟨?_, ?_, ?_, ?_, ?_, ?_, ?_, ?_, ?_, ?_, ?_, ?_, ?_, ?_, ?_, Z⟩ ?_ ?_
 ·show Weak _ _ ⟨[(21, SV.junk), (22, SV.junk), (23, SV.junk), (24, SV.junk), (25, SV.junk), (26, SV.junk), (27, SV.junk), (28, SV.junk), (29, SV.junk), (30, SV.junk), (20, SV.junk), (31, SV.junk), (32, SV.junk), (6, SV.junk), (7, SV.junk), (1, iv (r)), (2, SV.bp 1 0), (5, iv ((l.getD (Int.toNat r) default).host))], [(1, Own.box 1 (stG l) 24)]⟩
  refine We ?_ ?_
  ·exact ⟨Vj, Vj, Vj, Vj, Vj, Vj, Vj, Vj, Vj, Vj, Vj, Vj, Vj, Vj, Vj, V rfl, V rfl, V rfl, Z⟩
  ·exact ⟨⟨_, rfl, ⟨rfl, rfl, (An rfl)⟩⟩, Z⟩
 ·intro e hdn he hdp
  obtain ⟨h9, -⟩ := dns1 hdn he [9] (by kernel_rfl)
  simp only [setE, he, h9, cj_t, cj_f, cjn_t, cjn_f, cb_t, cb_f]
  refine U (LBA (V rfl) rfl Ga24 Sz24 (by decide)) <| Nt <| We ?_ ?_
  ·exact ⟨V rfl, V rfl, V rfl, V rfl, V rfl, V rfl, V rfl, V rfl, V rfl, Vj, V rfl, V rfl, V rfl, V rfl, V rfl, V rfl, V rfl, V rfl, Z⟩
  ·exact ⟨⟨_, rfl, ⟨rfl, rfl, (An rfl)⟩⟩, Z⟩
 ·intro e hdn he hdp
  obtain ⟨-, h9, -⟩ := dns1 hdn he [8, 9] (by kernel_rfl)
  simp only [setE, he, h9, cj_t, cj_f, cjn_t, cjn_f, cb_t, cb_f]
  refine U (Mv (V rfl)) <| Nt <| We ?_ ?_
  ·exact ⟨V rfl, V rfl, V rfl, V rfl, V rfl, V rfl, V rfl, V rfl, V rfl, Vj, V rfl, V rfl, V rfl, V rfl, V rfl, V rfl, V rfl, V rfl, Z⟩
  ·exact ⟨⟨_, rfl, ⟨rfl, rfl, (An rfl)⟩⟩, Z⟩
 ·intro e hdn he hdp
  obtain ⟨-, -, -, -, -, h9, -⟩ := dns1 hdn he [3, 5, 6, 7, 8, 9] (by kernel_rfl)
  simp only [setE, he, h9, cj_t, cj_f, cjn_t, cjn_f, cb_t, cb_f]
  refine U (FlB _ _ (V rfl) Un24 rfl 0 Sz22) <| Nt <| We ?_ ?_
  ·exact ⟨V rfl, V rfl, V rfl, V rfl, V rfl, V rfl, V rfl, V rfl, V rfl, Vj, V rfl, V rfl, V rfl, V rfl, V rfl, V rfl, V rfl, V rfl, Z⟩
  ·exact ⟨⟨_, rfl, ⟨rfl, rfl, (An rfl)⟩⟩, Z⟩
 ·intro e hdn he hdp
  obtain ⟨h2, -⟩ := ups hdn [2] hdp (by kernel_rfl)
  obtain ⟨-, -, -, -, h9, -⟩ := dns1 hdn he [5, 6, 7, 8, 9] (by kernel_rfl)
  simp only [setE, h2, he, h9, cj_t, cj_f, cjn_t, cjn_f, cb_t, cb_f]
  refine U (LdB (V rfl) rfl Ga22 (by decide)) <| Nt <| We ?_ ?_
  ·exact ⟨V rfl, V rfl, V rfl, V rfl, V rfl, V rfl, V rfl, V rfl, V rfl, Vj, V rfl, V rfl, V rfl, V rfl, V rfl, V rfl, V rfl, V rfl, Z⟩
  ·exact ⟨⟨_, rfl, ⟨rfl, rfl, (An rfl)⟩⟩, Z⟩
 ·intro e hdn he hdp
  obtain ⟨-, -, -, -, h9, -⟩ := dns1 hdn he [5, 6, 7, 8, 9] (by kernel_rfl)
  simp only [setE, he, h9, cj_t, cj_f, cjn_t, cjn_f, cb_t, cb_f]
  refine U (Mv (V rfl)) <| Nt <| We ?_ ?_
  ·exact ⟨V rfl, V rfl, V rfl, V rfl, V rfl, V rfl, V rfl, V rfl, V rfl, Vj, V rfl, V rfl, V rfl, V rfl, V rfl, V rfl, V rfl, V rfl, Z⟩
  ·exact ⟨⟨_, rfl, ⟨rfl, rfl, (An rfl)⟩⟩, Z⟩
 ·intro e hdn he hdp
  obtain ⟨h4, h3, h2, -⟩ := ups hdn [4, 3, 2] hdp (by kernel_rfl)
  obtain ⟨-, -, -, h9, -⟩ := dns1 hdn he [6, 7, 8, 9] (by kernel_rfl)
  simp only [setE, h2, h3, h4, he, h9, cj_t, cj_f, cjn_t, cjn_f, cb_t, cb_f]
  refine U (Ix (V rfl) (V rfl) ts22 te22 (by omega) (by omega)) <| Nt <| We ?_ ?_
  ·exact ⟨V rfl, V rfl, V rfl, V rfl, V rfl, V rfl, V rfl, V rfl, V rfl, Vj, V rfl, V rfl, V rfl, V rfl, V rfl, V rfl, V rfl, V rfl, Z⟩
  ·exact ⟨⟨_, rfl, ⟨rfl, rfl, (An rfl)⟩⟩, Z⟩
 ·intro e hdn he hdp
  obtain ⟨h5, h4, h3, h2, -⟩ := ups hdn [5, 4, 3, 2] hdp (by kernel_rfl)
  obtain ⟨-, -, h9, -⟩ := dns1 hdn he [7, 8, 9] (by kernel_rfl)
  simp only [setE, h2, h3, h4, h5, he, h9, cj_t, cj_f, cjn_t, cjn_f, cb_t, cb_f]
  refine U (Fl _ _ (V rfl) Un61 rfl 0 Sz3) <| Nt <| We ?_ ?_
  ·exact ⟨V rfl, V rfl, V rfl, V rfl, V rfl, V rfl, V rfl, V rfl, V rfl, Vj, V rfl, V rfl, V rfl, V rfl, V rfl, V rfl, V rfl, V rfl, Z⟩
  ·exact ⟨⟨_, rfl, ⟨rfl, rfl, (An rfl)⟩⟩, Z⟩
 ·intro e hdn he hdp
  obtain ⟨h6, h5, h4, h3, h2, -⟩ := ups hdn [6, 5, 4, 3, 2] hdp (by kernel_rfl)
  obtain ⟨-, h9, -⟩ := dns1 hdn he [8, 9] (by kernel_rfl)
  simp only [setE, h2, h3, h4, h5, h6, he, h9, cj_t, cj_f, cjn_t, cjn_f, cb_t, cb_f]
  refine U (Ld (V rfl) Ga3 (by decide)) <| Nt <| We ?_ ?_
  ·exact ⟨V rfl, V rfl, V rfl, V rfl, V rfl, V rfl, V rfl, V rfl, V rfl, Vj, V rfl, V rfl, V rfl, V rfl, V rfl, V rfl, V rfl, V rfl, Z⟩
  ·exact ⟨⟨_, rfl, ⟨rfl, rfl, (An rfl)⟩⟩, Z⟩
 ·intro e hdn he hdp
  obtain ⟨h7, h6, h5, h4, h3, h2, h1, -⟩ := ups hdn [7, 6, 5, 4, 3, 2, 1] hdp (by kernel_rfl)
  obtain ⟨h9, -⟩ := dns1 hdn he [9] (by kernel_rfl)
  simp only [setE, h1, h2, h3, h4, h5, h6, h7, he, h9, cj_t, cj_f, cjn_t, cjn_f, cb_t, cb_f]
  refine U (Bu [(0, iv (r)), (1, iv ((l.getD (Int.toNat r) default).uses))] id (hdCell ⟨r, (l.getD (Int.toNat r) default).uses⟩) zero26 build26 (by exact ⟨⟨rfl, (V rfl), rfl⟩, ⟨rfl, (V rfl), rfl⟩, Z⟩) (by decide) ⟨⟨Z, rfl⟩, rfl⟩) <| Nt <| We ?_ ?_
  ·exact ⟨V rfl, V rfl, V rfl, V rfl, V rfl, V rfl, V rfl, V rfl, V rfl, Vj, V rfl, V rfl, V rfl, V rfl, V rfl, V rfl, V rfl, V rfl, Z⟩
  ·exact ⟨⟨_, rfl, ⟨rfl, rfl, (An rfl)⟩⟩, Z⟩
 ·intro e hdn he hdp
  obtain ⟨h8, h7, h6, h5, h4, h3, h2, h1, h0, -⟩ := ups hdn [8, 7, 6, 5, 4, 3, 2, 1, 0] hdp (by kernel_rfl)
  obtain ⟨h10, h11, -, h13, -⟩ := dns1 hdn he [10, 11, 12, 13] (by kernel_rfl)
  simp only [setE, h0, h1, h2, h3, h4, h5, h6, h7, h8, he, h10, h11, h13, cj_t, cj_f, cjn_t, cjn_f, cb_t, cb_f]
  refine CM (cargs := [SV.agg 1 (stG l), SV.agg 2 (hdCell ⟨r, (l.getD (Int.toNat r) default).uses⟩)]) [] [(0, 2)] en58 (mv0 (by exact ⟨⟨(Vi (g' := stG l) (V rfl) ⟨Z, Ir⟩), rfl⟩, ⟨(V rfl), rfl⟩, Z⟩)) (order_ct l ⟨r, (l.getD (Int.toNat r) default).uses⟩ (by first | assumption | exact kb_nil | exact kb_of (by assumption) | exact kb_of fam_c5)) (by exact Z) rfl (freshN_cons (fresh_mk ⟨rfl, rfl, rfl, rfl, rfl, rfl, rfl, rfl, rfl, rfl, rfl, rfl, (noId_cj rfl), rfl, (noId_cj rfl), rfl, rfl, rfl, Z⟩ rfl rfl) rfl rfl) rfl rfl <| Nt <| We ?_ ?_
  ·exact ⟨V rfl, V rfl, V rfl, V rfl, V rfl, V rfl, V rfl, V rfl, V rfl, V rfl, Vj, Vj, V rfl, Vj, V rfl, V rfl, V rfl, V rfl, Z⟩
  ·exact ⟨⟨_, rfl, ⟨rfl, rfl, (An rfl)⟩⟩, ⟨_, rfl, rfl⟩, Z⟩
 ·intro e hdn he hdp
  obtain ⟨h9, h8, h7, h6, h5, h4, h3, h2, h1, h0, -⟩ := ups hdn [9, 8, 7, 6, 5, 4, 3, 2, 1, 0] hdp (by kernel_rfl)
  simp only [setE, h0, h1, h2, h3, h4, h5, h6, h7, h8, h9, he, cj_t, cj_f, cjn_t, cjn_f, cb_t, cb_f]
  refine U (Mv (V rfl)) <| Nt <| We ?_ ?_
  ·exact (Vs rfl)
  ·exact ⟨⟨_, rfl, ⟨rfl, rfl, (An rfl)⟩⟩, ⟨_, rfl, rfl⟩, Z⟩
 ·intro e hdn he hdp
  obtain ⟨h10, h9, h8, h7, h6, h5, h4, h3, h2, h1, h0, -⟩ := ups hdn [10, 9, 8, 7, 6, 5, 4, 3, 2, 1, 0] hdp (by kernel_rfl)
  simp only [setE, h0, h1, h2, h3, h4, h5, h6, h7, h8, h9, h10, he, cj_t, cj_f, cjn_t, cjn_f, cb_t, cb_f]
  refine U (Xt (V rfl) (by decide)) <| Nt <| We ?_ ?_
  ·exact (Vs rfl)
  ·exact ⟨⟨_, rfl, ⟨rfl, rfl, (An rfl)⟩⟩, ⟨_, rfl, rfl⟩, Z⟩
 ·intro e hdn he hdp
  obtain ⟨h10, h9, h8, h7, h6, h5, h4, h3, h2, h1, h0, -⟩ := ups hdn [10, 9, 8, 7, 6, 5, 4, 3, 2, 1, 0] hdp (by kernel_rfl)
  simp only [setE, h0, h1, h2, h3, h4, h5, h6, h7, h8, h9, h10, he, cj_t, cj_f, cjn_t, cjn_f, cb_t, cb_f]
  refine U (Xt (V rfl) (by decide)) <| Nt <| We ?_ ?_
  ·exact (Vs rfl)
  ·exact ⟨⟨_, rfl, ⟨rfl, rfl, (An rfl)⟩⟩, ⟨_, rfl, rfl⟩, Z⟩
 ·intro e hdn he hdp
  obtain ⟨h11, h10, h9, h8, h7, h6, h5, h4, h3, h2, h1, h0, -⟩ := ups hdn [11, 10, 9, 8, 7, 6, 5, 4, 3, 2, 1, 0] hdp (by kernel_rfl)
  simp only [setE, h0, h1, h2, h3, h4, h5, h6, h7, h8, h9, h10, h11, he, cj_t, cj_f, cjn_t, cjn_f, cb_t, cb_f]
  refine U (As (V rfl)) <| Nt <| We ?_ ?_
  ·exact (Vs rfl)
  ·exact ⟨⟨_, rfl, ⟨rfl, rfl, (An rfl)⟩⟩, ⟨_, rfl, rfl⟩, Z⟩
 ·intro e hdn he hdp
  obtain ⟨h13, h12, h11, h10, h9, h8, h7, h6, h5, h4, h3, h2, h1, h0, -⟩ := ups hdn [13, 12, 11, 10, 9, 8, 7, 6, 5, 4, 3, 2, 1, 0] hdp (by kernel_rfl)
  simp only [setE, h0, h1, h2, h3, h4, h5, h6, h7, h8, h9, h10, h11, h12, h13, he, cj_t, cj_f, cjn_t, cjn_f, cb_t, cb_f]
  refine U (As (V rfl)) <| Nt <| We ?_ ?_
  ·exact (Vs rfl)
  ·exact ⟨⟨_, rfl, ⟨rfl, rfl, (An rfl)⟩⟩, ⟨_, rfl, rfl⟩, Z⟩
 ·intro e he
  have h0 := he 0 (by decide)
  have h1 := he 1 (by decide)
  have h2 := he 2 (by decide)
  have h3 := he 3 (by decide)
  have h4 := he 4 (by decide)
  have h5 := he 5 (by decide)
  have h6 := he 6 (by decide)
  have h7 := he 7 (by decide)
  have h8 := he 8 (by decide)
  have h9 := he 9 (by decide)
  have h10 := he 10 (by decide)
  have h11 := he 11 (by decide)
  have h12 := he 12 (by decide)
  have h13 := he 13 (by decide)
  have h14 := he 14 (by decide)
  show Weak _ ⟨[(21, cj (e 0) (SV.agg 1 (fun zi => (stG l) (0 + zi)))), (22, cj (e 1) (iv (r))), (23, cj (e 2) (SV.bp 1 0)), (24, cj (e 3) (ndRow l)), (25, cj (e 4) (iv (r))), (26, cj (e 5) (SV.el l.length 8 (rowG ndCell default l) (Int.toNat r) 0)), (27, cj (e 6) (SV.el l.length 8 (rowG ndCell default l) (Int.toNat r) 1)), (28, cj (e 7) (iv ((l.getD (Int.toNat r) default).uses))), (29, cj (e 8) (SV.agg 2 (hdCell ⟨r, (l.getD (Int.toNat r) default).uses⟩))), (30, cj (e 9) (SV.renm (rn [(0, 2)]) (sv2 (SV.own 0) (iv (orderSt l ⟨r, (l.getD (Int.toNat r) default).uses⟩).2)))), (20, cj (e 10) (SV.renm (rn [(0, 2)]) (sv2 (SV.own 0) (iv (orderSt l ⟨r, (l.getD (Int.toNat r) default).uses⟩).2)))), (31, cj (e 11) (SV.own 2)), (32, cj (e 12) (iv ((orderSt l ⟨r, (l.getD (Int.toNat r) default).uses⟩).2))), (6, cj (e 13) (SV.own 2)), (7, cj (e 14) (iv ((orderSt l ⟨r, (l.getD (Int.toNat r) default).uses⟩).2))), (1, iv (r)), (2, SV.bp 1 0), (5, iv ((l.getD (Int.toNat r) default).host))], (cb (e 9) [(1, Own.box 1 (stG l) 24), (2, ownOf inCell 1 0 ((orderSt l ⟨r, (l.getD (Int.toNat r) default).uses⟩).1) 3)] [(1, Own.box 1 (stG l) 24)])⟩ _
  simp only [h0, h1, h2, h3, h4, h5, h6, h7, h8, h9, h10, h11, h12, h13, h14]
  show Weak _ ⟨[(21, SV.agg 1 (fun zi => (stG l) (0 + zi))), (22, iv (r)), (23, SV.bp 1 0), (24, ndRow l), (25, iv (r)), (26, SV.el l.length 8 (rowG ndCell default l) (Int.toNat r) 0), (27, SV.el l.length 8 (rowG ndCell default l) (Int.toNat r) 1), (28, iv ((l.getD (Int.toNat r) default).uses)), (29, SV.agg 2 (hdCell ⟨r, (l.getD (Int.toNat r) default).uses⟩)), (30, SV.renm (rn [(0, 2)]) (sv2 (SV.own 0) (iv (orderSt l ⟨r, (l.getD (Int.toNat r) default).uses⟩).2))), (20, SV.renm (rn [(0, 2)]) (sv2 (SV.own 0) (iv (orderSt l ⟨r, (l.getD (Int.toNat r) default).uses⟩).2))), (31, SV.own 2), (32, iv ((orderSt l ⟨r, (l.getD (Int.toNat r) default).uses⟩).2)), (6, SV.own 2), (7, iv ((orderSt l ⟨r, (l.getD (Int.toNat r) default).uses⟩).2)), (1, iv (r)), (2, SV.bp 1 0), (5, iv ((l.getD (Int.toNat r) default).host))], [(1, Own.box 1 (stG l) 24), (2, ownOf inCell 1 0 ((orderSt l ⟨r, (l.getD (Int.toNat r) default).uses⟩).1) 3)]⟩ _
  refine We ?_ ?_
  ·exact ⟨Va (V rfl) (An rfl), V rfl, V rfl, V rfl, V rfl, V rfl, V rfl, V rfl, Va (V rfl) (An rfl), V rfl, V rfl, V rfl, V rfl, V rfl, V rfl, V rfl, V rfl, V rfl, Z⟩
  ·exact ⟨⟨_, rfl, ⟨rfl, rfl, (An rfl)⟩⟩, ⟨_, rfl, rfl⟩, Z⟩
 refine Sq <| c_ownE 2 ((ordSt l r)) rfl (by exact congrArg Prod.fst (ord_self hc hr hra.1)) <| Rt <| t_nilO 3 3 (rowG slCell default []) 41 (.inl rfl) rfl <| Nt <| Sq <| Sq <| FzC 2 rfl <| Rq <| O (Mv (V rfl)) <| O (Ln (V rfl) ts33) <| O (Mv K) <| Nq <| Bo <| c_mv 3 60 rfl rfl <| c_ownE 60 (slotsL l (l.getD (Int.toNat r) default).host ((ordSt l r).take 0)) rfl (by rfl) <| Lo (fun (i : Nat) => ⟨[(2, SV.bp 1 0), (5, iv ((l.getD (Int.toNat r) default).host)), (8, SV.own 60), (33, inRow ((ordSt l r))), (34, iv ((((ordSt l r)).length : Int))), (35, iv ((i : Int)))], [(1, Own.box 1 (fun zt => SV.renm (mvN 3 60) ((stG l) zt)) 24), (60, ownOf slCell 3 default (slotsL l (l.getD (Int.toNat r) default).host ((ordSt l r).take i)) 41)]⟩) (fun (i : Nat) => i ≤ (ordSt l r).length) (fun (i : Nat) => (ordSt l r).length - i) 0 (by show 0 ≤ (ordSt l r).length; exact Nat.zero_le _) (We (ow := [(1, Own.box 1 (fun zt => SV.renm (mvN 3 60) ((stG l) zt)) 24), (60, ownOf slCell 3 default (slotsL l (l.getD (Int.toNat r) default).host ((ordSt l r).take 0)) 41)]) (Vs rfl) (by exact ⟨⟨_, rfl, rfl, rfl, (An rfl)⟩, ⟨_, rfl, rfl⟩, Z⟩)) <| ?_
 ·rintro i hI1
  have hJ1 : i ≤ (ordSt l r).length := hI1
  have hil := hJ1
  have hsl := slotsL_len (l := l) (H := (l.getD (Int.toNat r) default).host) ((ordSt l r).take i)
  rw [List.length_take] at hsl
  refine Sq <| Rq <| O (Lt (V rfl) (V rfl)) <| Nq <| Sq <| Cd (V rfl) (fun hc1 => ?_) (fun hc1 => ?_)
  ·have hc1s := hc1; try simp only [BL] at hc1s
   have hki := ordm_in hc hr (i := i) (by omega)
   have hnt := st_n1 hc hki
   have htg := hnt.tag
   refine Sk <| Sq <| Bo <| Sq <| Rq <| O (IxN (i := i) (V rfl) (V rfl) ts33 te33 (by omega)) <| O (Ld (V rfl) Ga3 (by decide)) <| O (As (V rfl)) <| Nq <| Sq <| Sq <| Rq <| O (FlB _ _ (V rfl) Un24 rfl 0 Sz22) <| O (LdB (V rfl) rfl Ga22 (by decide)) <| O (Mv (V rfl)) <| O (Ix (V rfl) (V rfl) ts22 te22 (by omega) (by omega)) <| O (Fl _ _ (V rfl) Un61 rfl 0 Sz3) <| O (Ld (V rfl) Ga3 (by decide)) <| O (Lt (V rfl) K) <| Nq <| Cd (V rfl) (fun hc2 => ?_) (fun hc2 => ?_)
   ·have hc2s := hc2; try simp only [BL] at hc2s
    refine Ex <| Rq <| O (Ad (V rfl) K (by omega)) <| O (Mv (V rfl)) <| Nq <| k_ownE 60 (slotsL l (l.getD (Int.toNat r) default).host ((ordSt l r).take ((i + 1)))) rfl (by rw [slotsL_s (by omega), slStep_no hc2s]) <| Nx (i + 1) (by show (i + 1) ≤ (ordSt l r).length; first | omega | (simp; done) | (refine ⟨?_, ?_⟩ <;> first | omega | (simp; done))) (by show (ordSt l r).length - (i + 1) < (ordSt l r).length - i; omega) (We (ow := [(1, Own.box 1 (fun zt => SV.renm (mvN 3 60) ((stG l) zt)) 24), (60, ownOf slCell 3 default (slotsL l (l.getD (Int.toNat r) default).host ((ordSt l r).take ((i + 1)))) 41)]) (Vs rfl) (by exact ⟨⟨_, rfl, rfl, rfl, (An rfl)⟩, ⟨_, rfl, rfl⟩, Z⟩))
   ·have hc2s := hc2; try simp only [BL] at hc2s
    refine Sk <| Sq <| Rt <| U (Mv (V rfl)) <| U (FlB _ _ (V rfl) Un24 rfl 0 Sz22) <| U (LdB (V rfl) rfl Ga22 (by decide)) <| U (Mv (V rfl)) <| U (Ix (V rfl) (V rfl) ts22 te22 (by omega) (by omega)) <| U (Fl _ _ (V rfl) Un61 rfl 0 Sz3) <| U (Ld (V rfl) Ga3 (by decide)) <| U (Sb (V rfl) K (by omega)) <| U (Bu [(0, iv ((((ordSt l r)).getD i 0))), (1, iv (((l.getD (Int.toNat ((((ordSt l r)).getD i 0))) default).tag) - 90))] id (cmpG [iv ((((ordSt l r)).getD i 0)), iv (((l.getD (Int.toNat ((((ordSt l r)).getD i 0))) default).tag) - 90), SV.v (Value.slice none 0 0)]) zero41 build41 (by exact ⟨⟨rfl, (V rfl), rfl⟩, ⟨rfl, (V rfl), rfl⟩, Z⟩) (by decide) ⟨⟨⟨Z, rfl⟩, rfl⟩, rfl⟩) <| Al 4 zero41 rfl rfl <| StA (V rfl) rfl (V rfl) Sz41 <| Nt <| Sq <| Sq <| Rt <| U (Mv (V rfl)) <| U (Mk (caps := [SV.bp 4 0]) ⟨(V rfl), Z⟩) <| CTb en142 (by exact ⟨(vb_own (V rfl) rfl), (vb_fnB (j := 4) [iv ((((ordSt l r)).getD i 0)), iv (((l.getD (Int.toNat ((((ordSt l r)).getD i 0))) default).tag) - 90), SV.v (Value.slice none 0 0)] [elB [iv ((((ordSt l r)).getD i 0)), iv (((l.getD (Int.toNat ((((ordSt l r)).getD i 0))) default).tag) - 90), SV.v (Value.slice none 0 0)] 0] (VF [SV.bp 4 0] ((V rfl)) (An rfl)) rfl rfl ⟨⟨⟨Z, rfl⟩, rfl⟩, rfl⟩ rfl rfl ⟨Z, rfl⟩ rfl), Z⟩) (conf142_ct (fun y : Sl => decide (y.num = ((l.getD (Int.toNat ((ordSt l r).getD i 0)) default).tag - 90))) en143 rfl (fun y => sameNum_ct y ((ordSt l r).getD i 0) ((l.getD (Int.toNat ((ordSt l r).getD i 0)) default).tag - 90)) (slotsL l (l.getD (Int.toNat r) default).host ((ordSt l r).take i))) <| U (Qo (V rfl)) <| Nt <| Cd (V rfl) (fun hc3 => ?_) (fun hc3 => ?_)
    ·have hc3s := hc3; try simp only [BL] at hc3s
     refine Sq <| Rq <| O (FlB _ _ (V rfl) Un24 rfl 0 Sz22) <| O (LdB (V rfl) rfl Ga22 (by decide)) <| O (Mv (V rfl)) <| O (Ix (V rfl) (V rfl) ts22 te22 (by omega) (by omega)) <| O (Fl _ _ (V rfl) Un61 rfl 0 Sz33) <| O (Ld (V rfl) Ga33 (by decide)) <| O (Ln (V rfl) ts33) <| O (Mv K) <| Nq <| Bo <| Tc (turn_nilB 4 2 61 1 (rowG inCell 0 []) 3 rfl rfl rfl) <| c_ownE 61 (((l.getD (Int.toNat (l.getD (Int.toNat r) default).host) default).kids.take 0).filter (markF l ((l.getD (Int.toNat ((ordSt l r).getD i 0)) default).tag - 90))) rfl (by rfl) <| Lo (fun (j : Nat) => ⟨[(2, SV.bp 1 0), (5, iv ((l.getD (Int.toNat r) default).host)), (8, SV.own 60), (11, SV.bp 4 0), (33, inRow ((ordSt l r))), (34, iv ((((ordSt l r)).length : Int))), (35, iv ((i : Int))), (64, inRow ((l.getD (Int.toNat ((l.getD (Int.toNat r) default).host)) default).kids)), (65, iv ((((l.getD (Int.toNat ((l.getD (Int.toNat r) default).host)) default).kids).length : Int))), (66, iv ((j : Int)))], [(1, Own.box 1 (fun zt => SV.renm (mvN 3 60) ((stG l) zt)) 24), (4, Own.box 3 (cmpG [iv (((ordSt l r).getD i 0)), iv (((l.getD (Int.toNat ((ordSt l r).getD i 0)) default).tag - 90)), SV.own 61]) 41), (60, ownOf slCell 3 default (slotsL l (l.getD (Int.toNat r) default).host ((ordSt l r).take i)) 41), (61, ownOf inCell 1 0 (((l.getD (Int.toNat (l.getD (Int.toNat r) default).host) default).kids.take j).filter (markF l ((l.getD (Int.toNat ((ordSt l r).getD i 0)) default).tag - 90))) 3)]⟩) (fun (j : Nat) => j ≤ (l.getD (Int.toNat (l.getD (Int.toNat r) default).host) default).kids.length) (fun (j : Nat) => (l.getD (Int.toNat (l.getD (Int.toNat r) default).host) default).kids.length - j) 0 (by show 0 ≤ (l.getD (Int.toNat (l.getD (Int.toNat r) default).host) default).kids.length; exact Nat.zero_le _) (We (ow := [(1, Own.box 1 (fun zt => SV.renm (mvN 3 60) ((stG l) zt)) 24), (4, Own.box 3 (cmpG [iv (((ordSt l r).getD i 0)), iv (((l.getD (Int.toNat ((ordSt l r).getD i 0)) default).tag - 90)), SV.own 61]) 41), (60, ownOf slCell 3 default (slotsL l (l.getD (Int.toNat r) default).host ((ordSt l r).take i)) 41), (61, ownOf inCell 1 0 (((l.getD (Int.toNat (l.getD (Int.toNat r) default).host) default).kids.take 0).filter (markF l ((l.getD (Int.toNat ((ordSt l r).getD i 0)) default).tag - 90))) 3)]) (Vs rfl) (by exact ⟨⟨_, rfl, rfl, rfl, (An rfl)⟩, ⟨_, rfl, rfl, rfl, (An rfl)⟩, ⟨_, rfl, rfl⟩, ⟨_, rfl, rfl⟩, Z⟩)) <| ?_
     ·rintro j hI2
      have hJ2 : j ≤ (l.getD (Int.toNat (l.getD (Int.toNat r) default).host) default).kids.length := hI2
      have hjl := hJ2
      have hfl := List.length_filter_le (markF l ((l.getD (Int.toNat ((ordSt l r).getD i 0)) default).tag - 90)) ((l.getD (Int.toNat (l.getD (Int.toNat r) default).host) default).kids.take j)
      rw [List.length_take] at hfl
      refine Sq <| Rq <| O (Lt (V rfl) (V rfl)) <| Nq <| Sq <| Cd (V rfl) (fun hc4 => ?_) (fun hc4 => ?_)
      ·have hc4s := hc4; try simp only [BL] at hc4s
       have hkj := kidm_in hc (k := (l.getD (Int.toNat r) default).host) (by omega) (j := j) (by omega)
       refine Sk <| Sq <| Bo <| Sq <| Rq <| O (IxN (i := j) (V rfl) (V rfl) ts33 te33 (by omega)) <| O (Ld (V rfl) Ga3 (by decide)) <| O (As (V rfl)) <| Nq <| Sq <| Rqd (by kernel_rfl) (by kernel_rfl) <| O (FlB _ _ (V rfl) Un24 rfl 0 Sz22) <| O (LdB (V rfl) rfl Ga22 (by decide)) <| O (Mv (V rfl)) <| O (Ix (V rfl) (V rfl) ts22 te22 (by omega) (by omega)) <| O (Fl _ _ (V rfl) Un61 rfl 0 Sz3) <| O (Ld (V rfl) Ga3 (by decide)) <| O (FlB _ _ (V rfl) Un41 rfl 0 Sz3) <| O (LdB (V rfl) rfl Ga3 (by decide)) <| O (Ql (V rfl) (V rfl)) <| Nq <| Cd (V rfl) (fun hc5 => ?_) (fun hc5 => ?_)
       ·have hc5s := hc5; try simp only [BL] at hc5s
        refine Rt <| U (FlB _ _ (V rfl) Un41 rfl 0 Sz33) <| U (LdB (V rfl) rfl Ga33 (by decide)) <| U (Mv (V rfl)) <| Uw (w_bs (n := 1) (zget := fun _ => iv 0) [(fun _ => iv ((((l.getD (Int.toNat ((l.getD (Int.toNat r) default).host)) default).kids).getD j 0)))] (rowG inCell 0 [(((l.getD (Int.toNat ((l.getD (Int.toNat r) default).host)) default).kids).getD j 0)]) Un33 Sz3 zero3 (by decide) rfl (by decide) ⟨⟨rfl, .inr ⟨rfl, (V rfl), rfl⟩, rfl⟩, Z⟩ ⟨Z, ⟨Z, rfl⟩⟩) <| Ap 5 (rowG inCell 0 ((((l.getD (Int.toNat (l.getD (Int.toNat r) default).host) default).kids.take j).filter (markF l ((l.getD (Int.toNat ((ordSt l r).getD i 0)) default).tag - 90))) ++ ([(((l.getD (Int.toNat ((l.getD (Int.toNat r) default).host)) default).kids).getD j 0)]))) eo33 (V rfl) rfl (V rfl) rfl (len_app (((l.getD (Int.toNat (l.getD (Int.toNat r) default).host) default).kids.take j).filter (markF l ((l.getD (Int.toNat ((ordSt l r).getD i 0)) default).tag - 90))) ([(((l.getD (Int.toNat ((l.getD (Int.toNat r) default).host)) default).kids).getD j 0)])) (by first | (simp only [maxLen, List.length_append, List.length_set, List.length_nil, List.length_cons]; first | omega | (simp only [List.length_append, List.length_cons, List.length_nil]; omega)) | (simp only [maxLen]; first | omega | (simp only [List.length_append, List.length_cons, List.length_nil]; omega))) (by first | (simp only [List.length_append, List.length_set, List.length_nil, List.length_cons]; first | omega | (simp only [List.length_append, List.length_cons, List.length_nil]; omega)) | (first | omega | (simp only [List.length_append, List.length_cons, List.length_nil]; omega))) (app_typed (l := (((l.getD (Int.toNat (l.getD (Int.toNat r) default).host) default).kids.take j).filter (markF l ((l.getD (Int.toNat ((ordSt l r).getD i 0)) default).tag - 90)))) (m := ([(((l.getD (Int.toNat ((l.getD (Int.toNat r) default).host)) default).kids).getD j 0)]))) <| U (FlB _ _ (V rfl) Un41 rfl 0 Sz33) <| t_st1V (V rfl) rfl (V rfl) (one_own rfl) Sz33 (by decide) <| Nt <| Rq <| O (Ad (V rfl) K (by omega)) <| O (Mv (V rfl)) <| Nq <| k_mv 5 61 rfl rfl <| k_ownE 61 (((l.getD (Int.toNat (l.getD (Int.toNat r) default).host) default).kids.take ((j + 1))).filter (markF l ((l.getD (Int.toNat ((ordSt l r).getD i 0)) default).tag - 90))) rfl (by exact filt_1 (p := markF l ((l.getD (Int.toNat ((ordSt l r).getD i 0)) default).tag - 90)) (by omega) hc5) <| Nx (j + 1) (by show (j + 1) ≤ (l.getD (Int.toNat (l.getD (Int.toNat r) default).host) default).kids.length; first | omega | (simp; done) | (refine ⟨?_, ?_⟩ <;> first | omega | (simp; done))) (by show (l.getD (Int.toNat (l.getD (Int.toNat r) default).host) default).kids.length - (j + 1) < (l.getD (Int.toNat (l.getD (Int.toNat r) default).host) default).kids.length - j; omega) (We (ow := [(1, Own.box 1 (fun zt => SV.renm (mvN 3 60) ((stG l) zt)) 24), (4, Own.box 3 (cmpG [iv (((ordSt l r).getD i 0)), iv (((l.getD (Int.toNat ((ordSt l r).getD i 0)) default).tag - 90)), SV.own 61]) 41), (60, ownOf slCell 3 default (slotsL l (l.getD (Int.toNat r) default).host ((ordSt l r).take i)) 41), (61, ownOf inCell 1 0 (((l.getD (Int.toNat (l.getD (Int.toNat r) default).host) default).kids.take ((j + 1))).filter (markF l ((l.getD (Int.toNat ((ordSt l r).getD i 0)) default).tag - 90))) 3)]) (Vs rfl) (by exact ⟨⟨_, rfl, rfl, rfl, (An rfl)⟩, ⟨_, rfl, rfl, rfl, (An rfl)⟩, ⟨_, rfl, rfl⟩, ⟨_, rfl, rfl⟩, Z⟩))
       ·have hc5s := hc5; try simp only [BL] at hc5s
        refine Sk <| Rq <| O (Ad (V rfl) K (by omega)) <| O (Mv (V rfl)) <| Nq <| k_ownE 61 (((l.getD (Int.toNat (l.getD (Int.toNat r) default).host) default).kids.take ((j + 1))).filter (markF l ((l.getD (Int.toNat ((ordSt l r).getD i 0)) default).tag - 90))) rfl (by exact filt_2 (p := markF l ((l.getD (Int.toNat ((ordSt l r).getD i 0)) default).tag - 90)) (by omega) hc5) <| Nx (j + 1) (by show (j + 1) ≤ (l.getD (Int.toNat (l.getD (Int.toNat r) default).host) default).kids.length; first | omega | (simp; done) | (refine ⟨?_, ?_⟩ <;> first | omega | (simp; done))) (by show (l.getD (Int.toNat (l.getD (Int.toNat r) default).host) default).kids.length - (j + 1) < (l.getD (Int.toNat (l.getD (Int.toNat r) default).host) default).kids.length - j; omega) (We (ow := [(1, Own.box 1 (fun zt => SV.renm (mvN 3 60) ((stG l) zt)) 24), (4, Own.box 3 (cmpG [iv (((ordSt l r).getD i 0)), iv (((l.getD (Int.toNat ((ordSt l r).getD i 0)) default).tag - 90)), SV.own 61]) 41), (60, ownOf slCell 3 default (slotsL l (l.getD (Int.toNat r) default).host ((ordSt l r).take i)) 41), (61, ownOf inCell 1 0 (((l.getD (Int.toNat (l.getD (Int.toNat r) default).host) default).kids.take ((j + 1))).filter (markF l ((l.getD (Int.toNat ((ordSt l r).getD i 0)) default).tag - 90))) 3)]) (Vs rfl) (by exact ⟨⟨_, rfl, rfl, rfl, (An rfl)⟩, ⟨_, rfl, rfl, rfl, (An rfl)⟩, ⟨_, rfl, rfl⟩, ⟨_, rfl, rfl⟩, Z⟩))
      ·have hc4s := hc4; try simp only [BL] at hc4s
       refine Ex <| Rt <| U (Mv (V rfl)) <| U (LBA (V rfl) rfl Ga41 Sz41 (by decide)) <| FzT 61 rfl <| Uw (w_bs (n := 1) (zget := cmpG [iv (0), iv (0), SV.v (Value.slice none 0 0)]) [_] (rowG slCell default [⟨((ordSt l r).getD i 0), ((l.getD (Int.toNat ((ordSt l r).getD i 0)) default).tag - 90), ((l.getD (Int.toNat (l.getD (Int.toNat r) default).host) default).kids.take j).filter (markF l ((l.getD (Int.toNat ((ordSt l r).getD i 0)) default).tag - 90))⟩]) Un27 Sz41 zero41 (by decide) rfl (by decide) ⟨⟨rfl, .inl (V rfl), rfl⟩, Z⟩ ⟨Z, ⟨⟨⟨Z, rfl⟩, rfl⟩, rfl⟩⟩) <| Ap 6 (rowG slCell default ((slotsL l (l.getD (Int.toNat r) default).host ((ordSt l r).take i)) ++ ([⟨((ordSt l r).getD i 0), ((l.getD (Int.toNat ((ordSt l r).getD i 0)) default).tag - 90), ((l.getD (Int.toNat (l.getD (Int.toNat r) default).host) default).kids.take j).filter (markF l ((l.getD (Int.toNat ((ordSt l r).getD i 0)) default).tag - 90))⟩]))) eo27 (V rfl) rfl (V rfl) rfl (len_app (slotsL l (l.getD (Int.toNat r) default).host ((ordSt l r).take i)) ([⟨((ordSt l r).getD i 0), ((l.getD (Int.toNat ((ordSt l r).getD i 0)) default).tag - 90), ((l.getD (Int.toNat (l.getD (Int.toNat r) default).host) default).kids.take j).filter (markF l ((l.getD (Int.toNat ((ordSt l r).getD i 0)) default).tag - 90))⟩])) (by first | (simp only [maxLen, List.length_append, List.length_set, List.length_nil, List.length_cons]; first | omega | (simp only [List.length_append, List.length_cons, List.length_nil]; omega)) | (simp only [maxLen]; first | omega | (simp only [List.length_append, List.length_cons, List.length_nil]; omega))) (by first | (simp only [List.length_append, List.length_set, List.length_nil, List.length_cons]; first | omega | (simp only [List.length_append, List.length_cons, List.length_nil]; omega)) | (first | omega | (simp only [List.length_append, List.length_cons, List.length_nil]; omega))) (app_typed (l := (slotsL l (l.getD (Int.toNat r) default).host ((ordSt l r).take i))) (m := ([⟨((ordSt l r).getD i 0), ((l.getD (Int.toNat ((ordSt l r).getD i 0)) default).tag - 90), ((l.getD (Int.toNat (l.getD (Int.toNat r) default).host) default).kids.take j).filter (markF l ((l.getD (Int.toNat ((ordSt l r).getD i 0)) default).tag - 90))⟩]))) <| U (As (V rfl)) <| Nt <| Rq <| O (Ad (V rfl) K (by omega)) <| O (Mv (V rfl)) <| Nq <| k_mv 6 60 rfl rfl <| k_ownE 60 (slotsL l (l.getD (Int.toNat r) default).host ((ordSt l r).take ((i + 1)))) rfl (by rw [slotsL_s (by omega), slStep_new hc2s (by simpa using hc3), filt_e (by omega)]) <| Nx (i + 1) (by show (i + 1) ≤ (ordSt l r).length; first | omega | (simp; done) | (refine ⟨?_, ?_⟩ <;> first | omega | (simp; done))) (by show (ordSt l r).length - (i + 1) < (ordSt l r).length - i; omega) (We (ow := [(1, Own.box 1 (fun zt => SV.renm (mvN 3 60) ((stG l) zt)) 24), (60, ownOf slCell 3 default (slotsL l (l.getD (Int.toNat r) default).host ((ordSt l r).take ((i + 1)))) 41)]) (Vs rfl) (by exact ⟨⟨_, rfl, rfl, rfl, (An rfl)⟩, ⟨_, rfl, rfl⟩, Z⟩))
    ·have hc3s := hc3; try simp only [BL] at hc3s
     refine Sk <| Rt <| U (Mv (V rfl)) <| U (LBA (V rfl) rfl Ga41 Sz41 (by decide)) <| Uw (w_rowI (get' := rowG slCell default [⟨(((ordSt l r)).getD i 0), ((l.getD (Int.toNat ((((ordSt l r)).getD i 0))) default).tag) - 90, []⟩]) (w_bs (n := 1) (zget := cmpG [iv (0), iv (0), SV.v (Value.slice none 0 0)]) [(fun zi => (cmpG [iv ((((ordSt l r)).getD i 0)), iv (((l.getD (Int.toNat ((((ordSt l r)).getD i 0))) default).tag) - 90), SV.v (Value.slice none 0 0)]) (0 + zi))] (fun zi zt => ([(fun zi => (cmpG [iv ((((ordSt l r)).getD i 0)), iv (((l.getD (Int.toNat ((((ordSt l r)).getD i 0))) default).tag) - 90), SV.v (Value.slice none 0 0)]) (0 + zi))].getD zi fun _ => SV.junk) zt) Un27 Sz41 zero41 (by decide) rfl (by decide) ⟨⟨rfl, .inl (V rfl), rfl⟩, Z⟩ ⟨Z, ⟨⟨⟨Z, rfl⟩, rfl⟩, rfl⟩⟩) ⟨Z, ⟨⟨⟨Z, impO_rfl⟩, impO_rfl⟩, impO_nil⟩⟩) <| Ap 7 (rowG slCell default ((slotsL l (l.getD (Int.toNat r) default).host ((ordSt l r).take i)) ++ ([⟨(((ordSt l r)).getD i 0), ((l.getD (Int.toNat ((((ordSt l r)).getD i 0))) default).tag) - 90, []⟩]))) eo27 (V rfl) rfl (V rfl) rfl (len_app (slotsL l (l.getD (Int.toNat r) default).host ((ordSt l r).take i)) ([⟨(((ordSt l r)).getD i 0), ((l.getD (Int.toNat ((((ordSt l r)).getD i 0))) default).tag) - 90, []⟩])) (by first | (simp only [maxLen, List.length_append, List.length_set, List.length_nil, List.length_cons]; first | omega | (simp only [List.length_append, List.length_cons, List.length_nil]; omega)) | (simp only [maxLen]; first | omega | (simp only [List.length_append, List.length_cons, List.length_nil]; omega))) (by first | (simp only [List.length_append, List.length_set, List.length_nil, List.length_cons]; first | omega | (simp only [List.length_append, List.length_cons, List.length_nil]; omega)) | (first | omega | (simp only [List.length_append, List.length_cons, List.length_nil]; omega))) (app_typed (l := (slotsL l (l.getD (Int.toNat r) default).host ((ordSt l r).take i))) (m := ([⟨(((ordSt l r)).getD i 0), ((l.getD (Int.toNat ((((ordSt l r)).getD i 0))) default).tag) - 90, []⟩]))) <| U (As (V rfl)) <| Nt <| Rq <| O (Ad (V rfl) K (by omega)) <| O (Mv (V rfl)) <| Nq <| k_mv 7 60 rfl rfl <| k_ownE 60 (slotsL l (l.getD (Int.toNat r) default).host ((ordSt l r).take ((i + 1)))) rfl (by rw [slotsL_s (by omega), slStep_old hc2s (by simpa using hc3)]) <| Nx (i + 1) (by show (i + 1) ≤ (ordSt l r).length; first | omega | (simp; done) | (refine ⟨?_, ?_⟩ <;> first | omega | (simp; done))) (by show (ordSt l r).length - (i + 1) < (ordSt l r).length - i; omega) (We (ow := [(1, Own.box 1 (fun zt => SV.renm (mvN 3 60) ((stG l) zt)) 24), (60, ownOf slCell 3 default (slotsL l (l.getD (Int.toNat r) default).host ((ordSt l r).take ((i + 1)))) 41)]) (Vs rfl) (by exact ⟨⟨_, rfl, rfl, rfl, (An rfl)⟩, ⟨_, rfl, rfl⟩, Z⟩))
  ·have hc1s := hc1; try simp only [BL] at hc1s
   exact Ex <| Sq <| Rq <| O (Mv (V rfl)) <| O (As (V rfl)) <| Nq <| FzC 60 rfl <| Rx <| R1 rfl (V rfl) rfl (by show slRow (slotsL l (l.getD (Int.toNat r) default).host ((ordSt l r).take i)) = slRow (slotsR l r); rw [slotsR, List.take_of_length_le (by omega)])
theorem slotsOf_ct (l : List Nd) (k : Int) (hc : checkSt l = 0) (hk : 0 ≤ k ∧ k < (l.length : Int)) (hb : ∀ n ∈ l, n.kids.length ≤ 17592186043904) : Ct Try.prog 29 [SV.agg 1 (stG l), iv (k)] (slRow (slotsK l k)) := by
 have h24 := checkSt_len hc
 have hrg := rt_ge l k
 have hkf := kids_few hc (i := Int.toNat k) (by omega)
 refine CtO 93 Try.func29 rfl rfl rfl fun E => row_lenA 0 (V (s := 0) rfl) rfl rfl fun hl0_0 => Sq <| Rt <| BxA 1 (V rfl) rfl rfl <| U (As (Vn (k := 3) (get := rowG slCell default []))) <| Nt <| Sq <| Rq <| O (LBA (V rfl) rfl Ga24 Sz24 (by decide)) <| O (Mv (V rfl)) <| CQ en102 (by exact ⟨⟨(Vi (g' := stG l) (V rfl) ⟨Z, Ir⟩), rfl⟩, ⟨(V rfl), rfl⟩, Z⟩) (rootR_ct l k) <| O (As (V rfl)) <| Nq <| Sq <| Sq <| Rq <| O (Mv (V rfl)) <| O (Ql (V rfl) K) <| Nq <| Cd (V rfl) (fun hc1 => ?_) (fun hc1 => ?_)
 ·have hc1s := hc1; try simp only [BL] at hc1s
  exact Sq <| Rq <| O (As (Vn (k := 3) (get := rowG slCell default []))) <| Nq <| Rx <| R1 rfl (V rfl) rfl (by show slRow ([]) = slRow (slotsK l k); rw [slotsK_0 (by omega)])
 ·have hc1s := hc1; try simp only [BL] at hc1s
  have hra := rt_all hc hk (by omega)
  have hol := ord_len hc hra.1
  refine Sk <| Sq <| Rg [22, 23, 24, 25, 26, 27, 28, 29, 30, 31, 21, 32, 33, 6, 7] (by kernel_rfl) (by kernel_rfl) (by kernel_rfl) <| Gp (Gq (LBA (V rfl) rfl Ga24 Sz24 (by decide))) <| Gp (Gq (Mv (V rfl))) <| Gp (Gq (FlB _ _ (V rfl) Un24 rfl 0 Sz22)) <| Gp (Gq (LdB (V rfl) rfl Ga22 (by decide))) <| Gp (Gq (Mv (V rfl))) <| Gp (Gq (Ix (V rfl) (V rfl) ts22 te22 (by omega) (by omega))) <| Gp (Gq (Fl _ _ (V rfl) Un61 rfl 0 Sz3)) <| Gp (Gq (Ld (V rfl) Ga3 (by decide))) <| Gp (Gq (Bu [(0, iv (rtI l k)), (1, iv ((l.getD (Int.toNat (rtI l k)) default).uses))] id (hdCell ⟨rtI l k, (l.getD (Int.toNat (rtI l k)) default).uses⟩) zero26 build26 (by exact ⟨⟨rfl, (V rfl), rfl⟩, ⟨rfl, (V rfl), rfl⟩, Z⟩) (by decide) ⟨⟨Z, rfl⟩, rfl⟩)) <| Gp (Gc en66 (by exact ⟨⟨(Vi (g' := stG l) (V rfl) ⟨Z, Ir⟩), rfl⟩, ⟨(V rfl), rfl⟩, Z⟩) (ordered_ct l ⟨rtI l k, (l.getD (Int.toNat (rtI l k)) default).uses⟩ (by first | assumption | exact kb_nil | exact kb_of (by assumption) | exact kb_of fam_c5))) <| Gp (Gq (Mv (V rfl))) <| Gp (Gq (Xt (V rfl) (by decide))) <| Gp (Gq (Xt (V rfl) (by decide))) <| Gp (Gq (As (V rfl))) <| Gp (Gq (As (V rfl))) <| Gz <| Sq <| Rt <| t_makeMap 2 rfl <| U (As (V rfl)) <| Nt <| Sq <| Rt <| t_nilO 3 3 (rowG slCell default []) 41 (.inl rfl) rfl <| Nt <| Sq <| Sq <| Weak.c (S' := ⟨[(1, iv (k)), (2, SV.bp 1 0), (6, inRow ((ordSt l (rtI l k)))), (8, SV.own 2), (9, SV.own 3)], [(1, Own.box 1 (stG l) 24), (2, Own.amap (bmap ([]))), (3, ownOf slCell 3 default ([]) 41)]⟩) (We (sl := [(1, iv (k)), (2, SV.bp 1 0), (6, inRow ((ordSt l (rtI l k)))), (8, SV.own 2), (9, SV.own 3)]) (ow := [(1, Own.box 1 (stG l) 24), (2, Own.amap (bmap ([]))), (3, ownOf slCell 3 default ([]) 41)]) (by exact ⟨V rfl, V rfl, val_eq (V rfl) (congrArg (fun q => inRow q.1) (ord_self hc hra.1 hra.2.2)), V rfl, V rfl, Z⟩) (by exact ⟨⟨_, rfl, rfl, rfl, (An rfl)⟩, ⟨_, rfl, rfl⟩, ⟨_, rfl, rfl⟩, Z⟩)) <| Rq <| O (Mv (V rfl)) <| O (Ln (V rfl) ts33) <| O (Mv K) <| Nq <| Bo <| c_mv 3 60 rfl rfl <| c_mv 2 61 rfl rfl <| c_ownE 60 (slotsL l k ((ordSt l (rtI l k)).take 0)) rfl (by rfl) <| ?_
  refine c_mapE 61 (bmap (tkM (slotsL l k ((ordSt l (rtI l k)).take 0)))) rfl (by rfl) <| Lo (fun (i : Nat) => ⟨[(1, iv (k)), (2, SV.bp 1 0), (8, SV.own 61), (9, SV.own 60), (35, inRow ((ordSt l (rtI l k)))), (36, iv ((((ordSt l (rtI l k))).length : Int))), (37, iv ((i : Int)))], [(1, Own.box 1 (fun zt => SV.renm (mvN 2 61) ((fun zt => SV.renm (mvN 3 60) ((stG l) zt)) zt)) 24), (60, ownOf slCell 3 default (slotsL l k ((ordSt l (rtI l k)).take i)) 41), (61, Own.amap (bmap (tkM (slotsL l k ((ordSt l (rtI l k)).take i)))))]⟩) (fun (i : Nat) => i ≤ (ordSt l (rtI l k)).length) (fun (i : Nat) => (ordSt l (rtI l k)).length - i) 0 (by show 0 ≤ (ordSt l (rtI l k)).length; exact Nat.zero_le _) (We (ow := [(1, Own.box 1 (fun zt => SV.renm (mvN 2 61) ((fun zt => SV.renm (mvN 3 60) ((stG l) zt)) zt)) 24), (60, ownOf slCell 3 default (slotsL l k ((ordSt l (rtI l k)).take 0)) 41), (61, Own.amap (bmap (tkM (slotsL l k ((ordSt l (rtI l k)).take 0)))))]) (Vs rfl) (by exact ⟨⟨_, rfl, rfl, rfl, (An rfl)⟩, ⟨_, rfl, rfl⟩, ⟨_, rfl, rfl⟩, Z⟩)) <| ?_
  ·rintro i hI1
   have hJ1 : i ≤ (ordSt l (rtI l k)).length := hI1
   have hil := hJ1
   have hsl := slotsL_len (l := l) (H := k) ((ordSt l (rtI l k)).take i)
   rw [List.length_take] at hsl
   refine Sq <| Rq <| O (Lt (V rfl) (V rfl)) <| Nq <| Sq <| Cd (V rfl) (fun hc2 => ?_) (fun hc2 => ?_)
   ·have hc2s := hc2; try simp only [BL] at hc2s
    have hki := ordm_in hc hra.1 (i := i) (by omega)
    have hnt := st_n1 hc hki
    have htg := hnt.tag
    refine Sk <| Sq <| Bo <| Sq <| Rq <| O (IxN (i := i) (V rfl) (V rfl) ts33 te33 (by omega)) <| O (Ld (V rfl) Ga3 (by decide)) <| O (As (V rfl)) <| Nq <| Sq <| Rq <| O (FlB _ _ (V rfl) Un24 rfl 0 Sz22) <| O (LdB (V rfl) rfl Ga22 (by decide)) <| O (Mv (V rfl)) <| O (Ix (V rfl) (V rfl) ts22 te22 (by omega) (by omega)) <| O (Fl _ _ (V rfl) Un61 rfl 0 Sz3) <| O (Ld (V rfl) Ga3 (by decide)) <| O (Sb (V rfl) K (by omega)) <| O (As (V rfl)) <| Nq <| Sq <| Sq <| Rq <| O (Mv (V rfl)) <| O (Lt (V rfl) K) <| Nq <| Cd (V rfl) (fun hc3 => ?_) (fun hc3 => ?_)
    ·have hc3s := hc3; try simp only [BL] at hc3s
     refine Ex <| Rq <| O (Ad (V rfl) K (by omega)) <| O (Mv (V rfl)) <| Nq <| k_ownE 60 (slotsL l k ((ordSt l (rtI l k)).take ((i + 1)))) rfl (by rw [slotsL_s (by omega), slStep_no (by omega)]) <| k_mapE 61 (bmap (tkM (slotsL l k ((ordSt l (rtI l k)).take ((i + 1)))))) rfl (by rw [slotsL_s (by omega), slStep_no (by omega)]) <| Nx (i + 1) (by show (i + 1) ≤ (ordSt l (rtI l k)).length; first | omega | (simp; done) | (refine ⟨?_, ?_⟩ <;> first | omega | (simp; done))) (by show (ordSt l (rtI l k)).length - (i + 1) < (ordSt l (rtI l k)).length - i; omega) (We (ow := [(1, Own.box 1 (fun zt => SV.renm (mvN 2 61) ((fun zt => SV.renm (mvN 3 60) ((stG l) zt)) zt)) 24), (60, ownOf slCell 3 default (slotsL l k ((ordSt l (rtI l k)).take ((i + 1)))) 41), (61, Own.amap (bmap (tkM (slotsL l k ((ordSt l (rtI l k)).take ((i + 1)))))))]) (Vs rfl) (by exact ⟨⟨_, rfl, rfl, rfl, (An rfl)⟩, ⟨_, rfl, rfl⟩, ⟨_, rfl, rfl⟩, Z⟩))
    ·have hc3s := hc3; try simp only [BL] at hc3s
     refine Sk <| Sq <| Rt <| U (Mv (V rfl)) <| U (Mv (V rfl)) <| U (Bu [(0, iv ((((ordSt l (rtI l k))).getD i 0))), (1, iv (((l.getD (Int.toNat ((((ordSt l (rtI l k))).getD i 0))) default).tag) - 90))] id (cmpG [iv ((((ordSt l (rtI l k))).getD i 0)), iv (((l.getD (Int.toNat ((((ordSt l (rtI l k))).getD i 0))) default).tag) - 90), SV.v (Value.slice none 0 0)]) zero41 build41 (by exact ⟨⟨rfl, (V rfl), rfl⟩, ⟨rfl, (V rfl), rfl⟩, Z⟩) (by decide) ⟨⟨⟨Z, rfl⟩, rfl⟩, rfl⟩) <| Al 4 zero41 rfl rfl <| StA (V rfl) rfl (V rfl) Sz41 <| Nt <| Sq <| Sq <| Rq <| O (FlB _ _ (V rfl) Un24 rfl 0 Sz22) <| O (LdB (V rfl) rfl Ga22 (by decide)) <| O (Mv (V rfl)) <| O (Ix (V rfl) (V rfl) ts22 te22 (by omega) (by omega)) <| O (Fl _ _ (V rfl) Un61 rfl 0 Sz33) <| O (Ld (V rfl) Ga33 (by decide)) <| O (Ln (V rfl) ts33) <| O (Mv K) <| Nq <| Bo <| Tc (turn_nilB 4 2 62 1 (rowG inCell 0 []) 3 rfl rfl rfl) <| c_ownE 62 (((l.getD (Int.toNat k) default).kids.take 0).filter (freeF l (slotsL l k ((ordSt l (rtI l k)).take i)) ((l.getD (Int.toNat ((ordSt l (rtI l k)).getD i 0)) default).tag - 90))) rfl (by rfl) <| Lo (fun (j : Nat) => ⟨[(1, iv (k)), (2, SV.bp 1 0), (8, SV.own 61), (9, SV.own 60), (12, iv (((l.getD (Int.toNat ((((ordSt l (rtI l k))).getD i 0))) default).tag) - 90)), (13, SV.bp 4 0), (35, inRow ((ordSt l (rtI l k)))), (36, iv ((((ordSt l (rtI l k))).length : Int))), (37, iv ((i : Int))), (58, inRow ((l.getD (Int.toNat k) default).kids)), (59, iv ((((l.getD (Int.toNat k) default).kids).length : Int))), (60, iv ((j : Int)))], [(1, Own.box 1 (fun zt => SV.renm (mvN 2 61) ((fun zt => SV.renm (mvN 3 60) ((stG l) zt)) zt)) 24), (4, Own.box 3 (cmpG [iv (((ordSt l (rtI l k)).getD i 0)), iv (((l.getD (Int.toNat ((ordSt l (rtI l k)).getD i 0)) default).tag - 90)), SV.own 62]) 41), (60, ownOf slCell 3 default (slotsL l k ((ordSt l (rtI l k)).take i)) 41), (61, Own.amap (bmap (tkM (slotsL l k ((ordSt l (rtI l k)).take i))))), (62, ownOf inCell 1 0 (((l.getD (Int.toNat k) default).kids.take j).filter (freeF l (slotsL l k ((ordSt l (rtI l k)).take i)) ((l.getD (Int.toNat ((ordSt l (rtI l k)).getD i 0)) default).tag - 90))) 3)]⟩) (fun (j : Nat) => j ≤ (l.getD (Int.toNat k) default).kids.length) (fun (j : Nat) => (l.getD (Int.toNat k) default).kids.length - j) 0 (by show 0 ≤ (l.getD (Int.toNat k) default).kids.length; exact Nat.zero_le _) (We (ow := [(1, Own.box 1 (fun zt => SV.renm (mvN 2 61) ((fun zt => SV.renm (mvN 3 60) ((stG l) zt)) zt)) 24), (4, Own.box 3 (cmpG [iv (((ordSt l (rtI l k)).getD i 0)), iv (((l.getD (Int.toNat ((ordSt l (rtI l k)).getD i 0)) default).tag - 90)), SV.own 62]) 41), (60, ownOf slCell 3 default (slotsL l k ((ordSt l (rtI l k)).take i)) 41), (61, Own.amap (bmap (tkM (slotsL l k ((ordSt l (rtI l k)).take i))))), (62, ownOf inCell 1 0 (((l.getD (Int.toNat k) default).kids.take 0).filter (freeF l (slotsL l k ((ordSt l (rtI l k)).take i)) ((l.getD (Int.toNat ((ordSt l (rtI l k)).getD i 0)) default).tag - 90))) 3)]) (Vs rfl) (by exact ⟨⟨_, rfl, rfl, rfl, (An rfl)⟩, ⟨_, rfl, rfl, rfl, (An rfl)⟩, ⟨_, rfl, rfl⟩, ⟨_, rfl, rfl⟩, ⟨_, rfl, rfl⟩, Z⟩)) <| ?_
     ·rintro j hI2
      have hJ2 : j ≤ (l.getD (Int.toNat k) default).kids.length := hI2
      have hjl := hJ2
      have hfl := List.length_filter_le (freeF l (slotsL l k ((ordSt l (rtI l k)).take i)) ((l.getD (Int.toNat ((ordSt l (rtI l k)).getD i 0)) default).tag - 90)) ((l.getD (Int.toNat k) default).kids.take j)
      rw [List.length_take] at hfl
      refine Sq <| Rq <| O (Lt (V rfl) (V rfl)) <| Nq <| Sq <| Cd (V rfl) (fun hc4 => ?_) (fun hc4 => ?_)
      ·have hc4s := hc4; try simp only [BL] at hc4s
       have hkj := kidm_in hc hk (j := j) (by omega)
       refine Sk <| Sq <| Bo <| Sq <| Rq <| O (IxN (i := j) (V rfl) (V rfl) ts33 te33 (by omega)) <| O (Ld (V rfl) Ga3 (by decide)) <| O (As (V rfl)) <| Nq <| Sq <| Rq <| O (Mv (V rfl)) <| O (Mv (V rfl)) <| O (q_lookB1 (l := tkM (slotsL l k ((ordSt l (rtI l k)).take i))) Un49 Un3 (fun w => Try.zeroValue4 w) (V rfl) rfl (V rfl)) <| O (Qo (V rfl)) <| O (Mv (V rfl)) <| Og (Gy rfl rfl) (fun hg => FlB _ _ (V rfl) Un24 rfl 0 Sz22) <| Og (Gy rfl rfl) (fun hg => LdB (Vg (V rfl) hg) rfl Ga22 (by decide)) <| Og (Gy rfl rfl) (fun hg => Mv (V rfl)) <| Og (Gy rfl rfl) (fun hg => Ix (Vg (V rfl) hg) (Vg (V rfl) hg) ts22 te22 (by omega) (by omega)) <| Og (Gy rfl rfl) (fun hg => Fl _ _ (Vg (V rfl) hg) Un61 rfl 0 Sz3) <| Og (Gy rfl rfl) (fun hg => Ld (Vg (V rfl) hg) Ga3 (by decide)) <| Og (Gy rfl rfl) (fun hg => Mv (V rfl)) <| Og (Gy rfl rfl) (fun hg => Ql (Vg (V rfl) hg) (Vg (V rfl) hg)) <| O (Qa (V rfl) (fun h => Vg (V rfl) h)) <| Nq <| Cd (V rfl) (fun hc5 => ?_) (fun hc5 => ?_)
       ·have hc5s := hc5; try simp only [BL] at hc5s
        refine Rt <| U (FlB _ _ (V rfl) Un41 rfl 0 Sz33) <| U (LdB (V rfl) rfl Ga33 (by decide)) <| U (Mv (V rfl)) <| Uw (w_bs (n := 1) (zget := fun _ => iv 0) [(fun _ => iv ((((l.getD (Int.toNat k) default).kids).getD j 0)))] (rowG inCell 0 [(((l.getD (Int.toNat k) default).kids).getD j 0)]) Un33 Sz3 zero3 (by decide) rfl (by decide) ⟨⟨rfl, .inr ⟨rfl, (V rfl), rfl⟩, rfl⟩, Z⟩ ⟨Z, ⟨Z, rfl⟩⟩) <| Ap 5 (rowG inCell 0 ((((l.getD (Int.toNat k) default).kids.take j).filter (freeF l (slotsL l k ((ordSt l (rtI l k)).take i)) ((l.getD (Int.toNat ((ordSt l (rtI l k)).getD i 0)) default).tag - 90))) ++ ([(((l.getD (Int.toNat k) default).kids).getD j 0)]))) eo33 (V rfl) rfl (V rfl) rfl (len_app (((l.getD (Int.toNat k) default).kids.take j).filter (freeF l (slotsL l k ((ordSt l (rtI l k)).take i)) ((l.getD (Int.toNat ((ordSt l (rtI l k)).getD i 0)) default).tag - 90))) ([(((l.getD (Int.toNat k) default).kids).getD j 0)])) (by first | (simp only [maxLen, List.length_append, List.length_set, List.length_nil, List.length_cons]; first | omega | (simp only [List.length_append, List.length_cons, List.length_nil]; omega)) | (simp only [maxLen]; first | omega | (simp only [List.length_append, List.length_cons, List.length_nil]; omega))) (by first | (simp only [List.length_append, List.length_set, List.length_nil, List.length_cons]; first | omega | (simp only [List.length_append, List.length_cons, List.length_nil]; omega)) | (first | omega | (simp only [List.length_append, List.length_cons, List.length_nil]; omega))) (app_typed (l := (((l.getD (Int.toNat k) default).kids.take j).filter (freeF l (slotsL l k ((ordSt l (rtI l k)).take i)) ((l.getD (Int.toNat ((ordSt l (rtI l k)).getD i 0)) default).tag - 90)))) (m := ([(((l.getD (Int.toNat k) default).kids).getD j 0)]))) <| U (FlB _ _ (V rfl) Un41 rfl 0 Sz33) <| t_st1V (V rfl) rfl (V rfl) (one_own rfl) Sz33 (by decide) <| Nt <| Rq <| O (Ad (V rfl) K (by omega)) <| O (Mv (V rfl)) <| Nq <| k_mv 5 62 rfl rfl <| k_ownE 62 (((l.getD (Int.toNat k) default).kids.take ((j + 1))).filter (freeF l (slotsL l k ((ordSt l (rtI l k)).take i)) ((l.getD (Int.toNat ((ordSt l (rtI l k)).getD i 0)) default).tag - 90))) rfl (by exact filt_1 (p := freeF l (slotsL l k ((ordSt l (rtI l k)).take i)) ((l.getD (Int.toNat ((ordSt l (rtI l k)).getD i 0)) default).tag - 90)) (by omega) hc5) <| Nx (j + 1) (by show (j + 1) ≤ (l.getD (Int.toNat k) default).kids.length; first | omega | (simp; done) | (refine ⟨?_, ?_⟩ <;> first | omega | (simp; done))) (by show (l.getD (Int.toNat k) default).kids.length - (j + 1) < (l.getD (Int.toNat k) default).kids.length - j; omega) (We (ow := [(1, Own.box 1 (fun zt => SV.renm (mvN 2 61) ((fun zt => SV.renm (mvN 3 60) ((stG l) zt)) zt)) 24), (4, Own.box 3 (cmpG [iv (((ordSt l (rtI l k)).getD i 0)), iv (((l.getD (Int.toNat ((ordSt l (rtI l k)).getD i 0)) default).tag - 90)), SV.own 62]) 41), (60, ownOf slCell 3 default (slotsL l k ((ordSt l (rtI l k)).take i)) 41), (61, Own.amap (bmap (tkM (slotsL l k ((ordSt l (rtI l k)).take i))))), (62, ownOf inCell 1 0 (((l.getD (Int.toNat k) default).kids.take ((j + 1))).filter (freeF l (slotsL l k ((ordSt l (rtI l k)).take i)) ((l.getD (Int.toNat ((ordSt l (rtI l k)).getD i 0)) default).tag - 90))) 3)]) (Vs rfl) (by exact ⟨⟨_, rfl, rfl, rfl, (An rfl)⟩, ⟨_, rfl, rfl, rfl, (An rfl)⟩, ⟨_, rfl, rfl⟩, ⟨_, rfl, rfl⟩, ⟨_, rfl, rfl⟩, Z⟩))
       ·have hc5s := hc5; try simp only [BL] at hc5s
        refine Sk <| Rq <| O (Ad (V rfl) K (by omega)) <| O (Mv (V rfl)) <| Nq <| k_ownE 62 (((l.getD (Int.toNat k) default).kids.take ((j + 1))).filter (freeF l (slotsL l k ((ordSt l (rtI l k)).take i)) ((l.getD (Int.toNat ((ordSt l (rtI l k)).getD i 0)) default).tag - 90))) rfl (by exact filt_2 (p := freeF l (slotsL l k ((ordSt l (rtI l k)).take i)) ((l.getD (Int.toNat ((ordSt l (rtI l k)).getD i 0)) default).tag - 90)) (by omega) hc5) <| Nx (j + 1) (by show (j + 1) ≤ (l.getD (Int.toNat k) default).kids.length; first | omega | (simp; done) | (refine ⟨?_, ?_⟩ <;> first | omega | (simp; done))) (by show (l.getD (Int.toNat k) default).kids.length - (j + 1) < (l.getD (Int.toNat k) default).kids.length - j; omega) (We (ow := [(1, Own.box 1 (fun zt => SV.renm (mvN 2 61) ((fun zt => SV.renm (mvN 3 60) ((stG l) zt)) zt)) 24), (4, Own.box 3 (cmpG [iv (((ordSt l (rtI l k)).getD i 0)), iv (((l.getD (Int.toNat ((ordSt l (rtI l k)).getD i 0)) default).tag - 90)), SV.own 62]) 41), (60, ownOf slCell 3 default (slotsL l k ((ordSt l (rtI l k)).take i)) 41), (61, Own.amap (bmap (tkM (slotsL l k ((ordSt l (rtI l k)).take i))))), (62, ownOf inCell 1 0 (((l.getD (Int.toNat k) default).kids.take ((j + 1))).filter (freeF l (slotsL l k ((ordSt l (rtI l k)).take i)) ((l.getD (Int.toNat ((ordSt l (rtI l k)).getD i 0)) default).tag - 90))) 3)]) (Vs rfl) (by exact ⟨⟨_, rfl, rfl, rfl, (An rfl)⟩, ⟨_, rfl, rfl, rfl, (An rfl)⟩, ⟨_, rfl, rfl⟩, ⟨_, rfl, rfl⟩, ⟨_, rfl, rfl⟩, Z⟩))
      ·have hc4s := hc4; try simp only [BL] at hc4s
       refine Ex <| Sq <| Rt <| U (Mv (V rfl)) <| U (Mv (V rfl)) <| t_putB (l := tkM (slotsL l k ((ordSt l (rtI l k)).take i))) (.inr rfl) Un49 Un3 (V rfl) rfl (V rfl) K <| Nt <| Rt <| U (Mv (V rfl)) <| U (LBA (V rfl) rfl Ga41 Sz41 (by decide)) <| FzT 62 rfl <| Uw (w_bs (n := 1) (zget := cmpG [iv (0), iv (0), SV.v (Value.slice none 0 0)]) [_] (rowG slCell default [⟨((ordSt l (rtI l k)).getD i 0), ((l.getD (Int.toNat ((ordSt l (rtI l k)).getD i 0)) default).tag - 90), ((l.getD (Int.toNat k) default).kids.take j).filter (freeF l (slotsL l k ((ordSt l (rtI l k)).take i)) ((l.getD (Int.toNat ((ordSt l (rtI l k)).getD i 0)) default).tag - 90))⟩]) Un27 Sz41 zero41 (by decide) rfl (by decide) ⟨⟨rfl, .inl (V rfl), rfl⟩, Z⟩ ⟨Z, ⟨⟨⟨Z, rfl⟩, rfl⟩, rfl⟩⟩) <| Ap 6 (rowG slCell default ((slotsL l k ((ordSt l (rtI l k)).take i)) ++ ([⟨((ordSt l (rtI l k)).getD i 0), ((l.getD (Int.toNat ((ordSt l (rtI l k)).getD i 0)) default).tag - 90), ((l.getD (Int.toNat k) default).kids.take j).filter (freeF l (slotsL l k ((ordSt l (rtI l k)).take i)) ((l.getD (Int.toNat ((ordSt l (rtI l k)).getD i 0)) default).tag - 90))⟩]))) eo27 (V rfl) rfl (V rfl) rfl (len_app (slotsL l k ((ordSt l (rtI l k)).take i)) ([⟨((ordSt l (rtI l k)).getD i 0), ((l.getD (Int.toNat ((ordSt l (rtI l k)).getD i 0)) default).tag - 90), ((l.getD (Int.toNat k) default).kids.take j).filter (freeF l (slotsL l k ((ordSt l (rtI l k)).take i)) ((l.getD (Int.toNat ((ordSt l (rtI l k)).getD i 0)) default).tag - 90))⟩])) (by first | (simp only [maxLen, List.length_append, List.length_set, List.length_nil, List.length_cons]; first | omega | (simp only [List.length_append, List.length_cons, List.length_nil]; omega)) | (simp only [maxLen]; first | omega | (simp only [List.length_append, List.length_cons, List.length_nil]; omega))) (by first | (simp only [List.length_append, List.length_set, List.length_nil, List.length_cons]; first | omega | (simp only [List.length_append, List.length_cons, List.length_nil]; omega)) | (first | omega | (simp only [List.length_append, List.length_cons, List.length_nil]; omega))) (app_typed (l := (slotsL l k ((ordSt l (rtI l k)).take i))) (m := ([⟨((ordSt l (rtI l k)).getD i 0), ((l.getD (Int.toNat ((ordSt l (rtI l k)).getD i 0)) default).tag - 90), ((l.getD (Int.toNat k) default).kids.take j).filter (freeF l (slotsL l k ((ordSt l (rtI l k)).take i)) ((l.getD (Int.toNat ((ordSt l (rtI l k)).getD i 0)) default).tag - 90))⟩]))) <| U (As (V rfl)) <| Nt <| Rq <| O (Ad (V rfl) K (by omega)) <| O (Mv (V rfl)) <| Nq <| k_mv 6 60 rfl rfl <| k_ownE 60 (slotsL l k ((ordSt l (rtI l k)).take ((i + 1)))) rfl (by rw [slotsL_s (by omega), slStep_doc (j := j) (by omega) (by omega)]) <| k_mapE 61 (bmap (tkM (slotsL l k ((ordSt l (rtI l k)).take ((i + 1)))))) rfl (by rw [slotsL_s (by omega), slStep_doc (j := j) (by omega) (by omega), tkM_app]) <| Nx (i + 1) (by show (i + 1) ≤ (ordSt l (rtI l k)).length; first | omega | (simp; done) | (refine ⟨?_, ?_⟩ <;> first | omega | (simp; done))) (by show (ordSt l (rtI l k)).length - (i + 1) < (ordSt l (rtI l k)).length - i; omega) (We (ow := [(1, Own.box 1 (fun zt => SV.renm (mvN 2 61) ((fun zt => SV.renm (mvN 3 60) ((stG l) zt)) zt)) 24), (60, ownOf slCell 3 default (slotsL l k ((ordSt l (rtI l k)).take ((i + 1)))) 41), (61, Own.amap (bmap (tkM (slotsL l k ((ordSt l (rtI l k)).take ((i + 1)))))))]) (Vs rfl) (by exact ⟨⟨_, rfl, rfl, rfl, (An rfl)⟩, ⟨_, rfl, rfl⟩, ⟨_, rfl, rfl⟩, Z⟩))
   ·have hc2s := hc2; try simp only [BL] at hc2s
    exact Ex <| Sq <| Rq <| O (Mv (V rfl)) <| O (As (V rfl)) <| Nq <| FzC 60 rfl <| Rx <| R1 rfl (V rfl) rfl (by show slRow (slotsL l k ((ordSt l (rtI l k)).take i)) = slRow (slotsK l k); rw [slotsK_1 (by omega), slotsR, hra.2.1, List.take_of_length_le (by omega)])
end Go.Proofs.Ytmcdamcedemdiaa
namespace Go.Proofs.Ytmcdamcedemdiaa
open Go.RowKit Go.Eng
theorem givenTo_ct (l : List Nd) (k : Int) (hc : checkSt l = 0) (hk : 0 ≤ k ∧ k < (l.length : Int)) (hb : ∀ n ∈ l, n.kids.length ≤ 17592186043904) : Ct Try.prog 27 [SV.agg 1 (stG l), iv (k)] (iv (givenI l k)) := by
 have h24 := checkSt_len hc
 have hpr := (st_n1 hc hk).par
 have hsl := slotsK_len hc hk
 refine CtO 31 Try.func27 rfl rfl rfl fun E => row_lenA 0 (V (s := 0) rfl) rfl rfl fun hl0_0 => Sq <| Rt <| BxA 1 (V rfl) rfl rfl <| U (As K) <| Nt <| Sq <| Sq <| Rq <| O (FlB _ _ (V rfl) Un24 rfl 0 Sz22) <| O (LdB (V rfl) rfl Ga22 (by decide)) <| O (Mv (V rfl)) <| O (Ix (V rfl) (V rfl) ts22 te22 (by omega) (by omega)) <| O (Fl _ _ (V rfl) Un61 rfl 0 Sz3) <| O (Ld (V rfl) Ga3 (by decide)) <| O (As (V rfl)) <| Nq <| Sq <| Rq <| O (Mv (V rfl)) <| O (Qn (V rfl) K) <| Nq <| Cd (V rfl) (fun hc1 => ?_) (fun hc1 => ?_)
 ·have hc1s := hc1; try simp only [BL] at hc1s
  have hp : ¬ (l.getD (Int.toNat k) default).par < 0 := by omega
  refine Sq <| Rt <| U (LBA (V rfl) rfl Ga24 Sz24 (by decide)) <| U (Mv (V rfl)) <| CT en29 (by exact ⟨⟨(Vi (g' := stG l) (V rfl) ⟨Z, Ir⟩), rfl⟩, ⟨(V rfl), rfl⟩, Z⟩) (slotsOf_ct l ((l.getD (Int.toNat k) default).par) (by assumption) (by first | assumption | omega) (by first | assumption | exact kb_nil | exact kb_of (by assumption) | exact kb_of fam_c5)) <| U (Ln (V rfl) ts27) <| U (Mv K) <| Nt <| Bo <| Lo (fun (i : Nat) => ⟨[(1, iv (k)), (18, slRow (slotsK l ((l.getD (Int.toNat k) default).par))), (19, iv (((slotsK l ((l.getD (Int.toNat k) default).par)).length : Int))), (20, iv ((i : Int)))], []⟩) (fun (i : Nat) => i ≤ (slotsK l (l.getD (Int.toNat k) default).par).length ∧ ∀ j, j < i → inG k ((slotsK l (l.getD (Int.toNat k) default).par).getD j default) = false) (fun (i : Nat) => (slotsK l (l.getD (Int.toNat k) default).par).length - i) 0 (by show 0 ≤ (slotsK l (l.getD (Int.toNat k) default).par).length ∧ ∀ j, j < 0 → inG k ((slotsK l (l.getD (Int.toNat k) default).par).getD j default) = false; exact ⟨Nat.zero_le _, fun j hj => absurd hj (Nat.not_lt_zero _)⟩) (We (Vs rfl) Z) <| ?_
  ·rintro i hI1
   have hJ1 : i ≤ (slotsK l (l.getD (Int.toNat k) default).par).length ∧ ∀ j, j < i → inG k ((slotsK l (l.getD (Int.toNat k) default).par).getD j default) = false := hI1
   have hi1 := hJ1.1
   have hall := hJ1.2
   refine Sq <| Rq <| O (Lt (V rfl) (V rfl)) <| Nq <| Sq <| Cd (V rfl) (fun hc2 => ?_) (fun hc2 => ?_)
   ·have hc2s := hc2; try simp only [BL] at hc2s
    refine Sk <| Sq <| Bo <| Sq <| Rt <| U (IxN (i := i) (V rfl) (V rfl) ts27 te27 (by clear hall hJ1 hI1; omega)) <| U (LdA (V rfl) Ga41 Sz41 (by decide)) <| Al 2 zero41 rfl rfl <| StA (V rfl) rfl (V rfl) Sz41 <| Nt <| Sq <| Rq <| O (FlB _ _ (V rfl) Un41 rfl 0 Sz33) <| O (LdB (V rfl) rfl Ga33 (by decide)) <| O (Mv (V rfl)) <| CQ en36 (by exact ⟨⟨(V rfl), rfl⟩, ⟨(V rfl), rfl⟩, Z⟩) (contains_ct (((slotsK l ((l.getD (Int.toNat k) default).par)).getD i default).given) k) <| Nq <| Cd (V rfl) (fun hc3 => ?_) (fun hc3 => ?_)
    ·have hc3s := hc3; try simp only [BL] at hc3s
     exact Sq <| Rq <| O (FlB _ _ (V rfl) Un41 rfl 0 Sz3) <| O (LdB (V rfl) rfl Ga3 (by decide)) <| O (As (V rfl)) <| Nq <| Rx <| R1 rfl (V rfl) rfl (by show iv (((slotsK l ((l.getD (Int.toNat k) default).par)).getD i default).pl) = iv (givenI l k); rw [givenI_p hp, giv_hit (by clear hall hJ1 hI1; omega) hall hc3])
    ·have hc3s := hc3; try simp only [BL] at hc3s
     exact Sk <| Rq <| O (Ad (V rfl) K (by clear hall hJ1 hI1; omega)) <| O (Mv (V rfl)) <| Nq <| Nx (i + 1) (by show (i + 1) ≤ (slotsK l (l.getD (Int.toNat k) default).par).length ∧ ∀ j, j < (i + 1) → inG k ((slotsK l (l.getD (Int.toNat k) default).par).getD j default) = false; exact ⟨by clear hall hJ1 hI1; omega, idxF_s (p := inG k) hall hc3⟩) (by show (slotsK l (l.getD (Int.toNat k) default).par).length - (i + 1) < (slotsK l (l.getD (Int.toNat k) default).par).length - i; clear hall hJ1 hI1; omega) (We (Vs rfl) Z)
   ·have hc2s := hc2; try simp only [BL] at hc2s
    exact Ex <| Sq <| Rq <| O (As K) <| Nq <| Rx <| R1 rfl (V rfl) rfl (by show iv ((-1)) = iv (givenI l k); rw [givenI_p hp, giv_none (by clear hall hJ1 hI1; omega) hall])
 ·have hc1s := hc1; try simp only [BL] at hc1s
  exact Sk <| Sq <| Rq <| O (As K) <| Nq <| Rx <| R1 rfl (V rfl) rfl (by show iv ((-1)) = iv (givenI l k); rw [givenI_n (by omega)])
theorem slotsF_ct (l : List Nd) (h : Hd) (hb : ∀ n ∈ l, n.kids.length ≤ 17592186043904) : Ct Try.prog 21 [SV.agg 1 (stG l), SV.agg 2 (hdCell h)] (sv2 (slRow (slotsSt l h).1) (iv (slotsSt l h).2)) := by
 refine CtO 27 Try.func21 rfl rfl rfl fun E => row_lenA 0 (V (s := 0) rfl) rfl rfl fun hl0_0 => Sq <| Rt <| BxA 1 (V rfl) rfl rfl <| BxA 2 (V rfl) rfl rfl <| U (As (Vn (k := 3) (get := rowG slCell default []))) <| U (As K) <| Nt <| Sq <| Sq <| Rt <| U (LBA (V rfl) rfl Ga24 Sz24 (by decide)) <| U (LBA (V rfl) rfl Ga26 Sz26 (by decide)) <| CT en46 (by exact ⟨⟨(Vi (g' := stG l) (V rfl) ⟨Z, Ir⟩), rfl⟩, ⟨(Vi (g' := hdCell ⟨h.pl, h.use⟩) (V rfl) ⟨⟨Z, Ir⟩, Ir⟩), rfl⟩, Z⟩) (find_ct l h (by first | assumption | exact kb_nil | exact kb_of (by assumption) | exact kb_of fam_c5)) <| U (Mv (V rfl)) <| U (Xt (V rfl) (by decide)) <| U (Xt (V rfl) (by decide)) <| Al 3 zero61 rfl rfl <| StA (V rfl) rfl (V rfl) Sz61 <| U (As (V rfl)) <| Nt <| Sq <| Rq <| O (Mv (V rfl)) <| O (Qn (V rfl) K) <| Nq <| Cd (V rfl) (fun hc1 => ?_) (fun hc1 => ?_)
 ·have hc1s := hc1; try simp only [BL] at hc1s
  exact Sq <| Rq <| O (Mv (V rfl)) <| O (As (Vn (k := 3) (get := rowG slCell default []))) <| O (As (V rfl)) <| Nq <| Rx <| R2 rfl (V rfl) (V rfl) rfl rfl (by show sv2 (slRow ([])) (iv ((findSt l h).2)) = sv2 (slRow (slotsSt l h).1) (iv (slotsSt l h).2); rw [slots_1 (fun z => hc1s ((first_find l h).symm.trans z)), first_find])
 ·have hc1s := hc1; try simp only [BL] at hc1s
  have hf0 : firstSt l [h] = 0 := (first_find l h).trans hc1s
  have hc0 := (first1 hf0).1
  have hpl := (first1 hf0).2.2.1
  have hfo := (find_ok hc1s).2.2
  have h24 := checkSt_len hc0
  refine Sk <| Sq <| Rq <| O (LBA (V rfl) rfl Ga24 Sz24 (by decide)) <| O (FlB _ _ (V rfl) Un26 rfl 0 Sz3) <| O (LdB (V rfl) rfl Ga3 (by decide)) <| CQ en96 (by exact ⟨⟨(Vi (g' := stG l) (V rfl) ⟨Z, Ir⟩), rfl⟩, ⟨(V rfl), rfl⟩, Z⟩) (root_ct l h.pl) <| O (As (V rfl)) <| Nq <| Sq <| Sq <| Rq <| O (Mv (V rfl)) <| O (Lt (V rfl) K) <| Nq <| Cd (V rfl) (fun hc2 => ?_) (fun hc2 => ?_)
  ·have hc2s := hc2; try simp only [BL] at hc2s
   exact Sq <| Rq <| O (As (Vn (k := 3) (get := rowG slCell default []))) <| O (As K) <| Nq <| Rx <| R2 rfl (V rfl) (V rfl) rfl rfl (by show sv2 (slRow ([])) (iv (0)) = sv2 (slRow (slotsSt l h).1) (iv (slotsSt l h).2); rw [slots_2 hf0, slotsK_0 hc2s])
  ·have hc2s := hc2; try simp only [BL] at hc2s
   have hra := rt_all hc0 hpl (by omega)
   have hHH : 0 ≤ (l.getD (Int.toNat (rtI l h.pl)) default).host := by rw [hra.2.1]; exact hpl.1
   exact Sk <| Sq <| Rt <| U (LBA (V rfl) rfl Ga24 Sz24 (by decide)) <| U (Mv (V rfl)) <| CT en97 (by exact ⟨⟨(Vi (g' := stG l) (V rfl) ⟨Z, Ir⟩), rfl⟩, ⟨(V rfl), rfl⟩, Z⟩) (slots_ct l (rtI l h.pl) (by assumption) (by first | assumption | omega) (by first | assumption | omega) (by first | assumption | exact kb_nil | exact kb_of (by assumption) | exact kb_of fam_c5)) <| U (As (V rfl)) <| U (As K) <| Nt <| Rx <| R2 rfl (V rfl) (V rfl) rfl rfl (by show sv2 (slRow (slotsR l (rtI l h.pl))) (iv (0)) = sv2 (slRow (slotsSt l h).1) (iv (slotsSt l h).2); rw [slots_2 hf0, slotsK_1 hc2s])
theorem givenF_ct (l : List Nd) (h : Hd) (hb : ∀ n ∈ l, n.kids.length ≤ 17592186043904) : Ct Try.prog 22 [SV.agg 1 (stG l), SV.agg 2 (hdCell h)] (sv2 (iv (givenSt l h).1) (iv (givenSt l h).2)) := by
 refine CtO 45 Try.func22 rfl rfl rfl fun E => row_lenA 0 (V (s := 0) rfl) rfl rfl fun hl0_0 => Sq <| Rt <| BxA 1 (V rfl) rfl rfl <| BxA 2 (V rfl) rfl rfl <| U (As K) <| U (As K) <| Nt <| Sq <| Rt <| U (LBA (V rfl) rfl Ga24 Sz24 (by decide)) <| U (LBA (V rfl) rfl Ga26 Sz26 (by decide)) <| CT en46 (by exact ⟨⟨(Vi (g' := stG l) (V rfl) ⟨Z, Ir⟩), rfl⟩, ⟨(Vi (g' := hdCell ⟨h.pl, h.use⟩) (V rfl) ⟨⟨Z, Ir⟩, Ir⟩), rfl⟩, Z⟩) (find_ct l h (by first | assumption | exact kb_nil | exact kb_of (by assumption) | exact kb_of fam_c5)) <| U (Mv (V rfl)) <| U (Xt (V rfl) (by decide)) <| U (Xt (V rfl) (by decide)) <| Al 3 zero61 rfl rfl <| StA (V rfl) rfl (V rfl) Sz61 <| U (As (V rfl)) <| Nt <| Sq <| Sq <| Rq <| O (Mv (V rfl)) <| O (Qn (V rfl) K) <| Nq <| Cd (V rfl) (fun hc1 => ?_) (fun hc1 => ?_)
 ·have hc1s := hc1; try simp only [BL] at hc1s
  exact Sq <| Rq <| O (Mv (V rfl)) <| O (As K) <| O (As (V rfl)) <| Nq <| Rx <| R2 rfl (V rfl) (V rfl) rfl rfl (by show sv2 (iv (0)) (iv ((findSt l h).2)) = sv2 (iv (givenSt l h).1) (iv (givenSt l h).2); rw [given_1 (fun z => hc1s ((first_find l h).symm.trans z)), first_find])
 ·have hc1s := hc1; try simp only [BL] at hc1s
  have hf0 : firstSt l [h] = 0 := (first_find l h).trans hc1s
  have hc0 := (first1 hf0).1
  have hpl := (first1 hf0).2.2.1
  have hfo := (find_ok hc1s).2.2
  have h24 := checkSt_len hc0
  have hfe : (findSt l h).1 = l.getD (Int.toNat h.pl) default := congrArg Prod.fst hfo
  have hpr : -1 ≤ (findSt l h).1.par ∧ (findSt l h).1.par < (l.length : Int) := by rw [hfe]; exact (st_n1 hc0 hpl).par
  refine Sk <| Sq <| Sq <| Rq <| O (FlB _ _ (V rfl) Un61 rfl 0 Sz3) <| O (LdB (V rfl) rfl Ga3 (by decide)) <| O (Lt (V rfl) K) <| Nq <| Cd (V rfl) (fun hc2 => ?_) (fun hc2 => ?_)
  ·have hc2s := hc2; try simp only [BL] at hc2s
   exact Sq <| Rq <| O (As K) <| O (As K) <| Nq <| Rx <| R2 rfl (V rfl) (V rfl) rfl rfl (by show sv2 (iv ((-1))) (iv (0)) = sv2 (iv (givenSt l h).1) (iv (givenSt l h).2); rw [given_2 hf0, givenI_n (by rw [← hfe]; exact hc2s)])
  ·have hc2s := hc2; try simp only [BL] at hc2s
   have hp : ¬ (l.getD (Int.toNat h.pl) default).par < 0 := by rw [← hfe]; exact hc2s
   refine Sk <| Sq <| Sq <| Rq <| O (LBA (V rfl) rfl Ga24 Sz24 (by decide)) <| O (FlB _ _ (V rfl) Un61 rfl 0 Sz3) <| O (LdB (V rfl) rfl Ga3 (by decide)) <| CQ en96 (by exact ⟨⟨(Vi (g' := stG l) (V rfl) ⟨Z, Ir⟩), rfl⟩, ⟨(V rfl), rfl⟩, Z⟩) (root_ct l ((findSt l h).1.par)) <| O (As (V rfl)) <| Nq <| Sq <| Rq <| O (Mv (V rfl)) <| O (Ge (V rfl) K) <| Nq <| Cd (V rfl) (fun hc3 => ?_) (fun hc3 => ?_)
   ·have hc3s := hc3; try simp only [BL] at hc3s
    have hra := rt_all hc0 (k := (findSt l h).1.par) (by omega) hc3s
    have hHH : 0 ≤ (l.getD (Int.toNat (rtI l (findSt l h).1.par)) default).host := by rw [hra.2.1]; omega
    have hsl := slotsR_len hc0 hra.1
    refine Sq <| Rt <| U (LBA (V rfl) rfl Ga24 Sz24 (by decide)) <| U (Mv (V rfl)) <| CT en97 (by exact ⟨⟨(Vi (g' := stG l) (V rfl) ⟨Z, Ir⟩), rfl⟩, ⟨(V rfl), rfl⟩, Z⟩) (slots_ct l (rtI l ((findSt l h).1.par)) (by assumption) (by first | assumption | omega) (by first | assumption | omega) (by first | assumption | exact kb_nil | exact kb_of (by assumption) | exact kb_of fam_c5)) <| U (Ln (V rfl) ts27) <| U (Mv K) <| Nt <| Bo <| Lo (fun (i : Nat) => ⟨[(3, SV.bp 2 0), (31, slRow (slotsR l (rtI l ((findSt l h).1.par)))), (32, iv (((slotsR l (rtI l ((findSt l h).1.par))).length : Int))), (33, iv ((i : Int)))], [(2, Own.box 2 (hdCell h) 26)]⟩) (fun (i : Nat) => i ≤ (slotsR l (rtI l (findSt l h).1.par)).length ∧ ∀ j, j < i → inG h.pl ((slotsR l (rtI l (findSt l h).1.par)).getD j default) = false) (fun (i : Nat) => (slotsR l (rtI l (findSt l h).1.par)).length - i) 0 (by show 0 ≤ (slotsR l (rtI l (findSt l h).1.par)).length ∧ ∀ j, j < 0 → inG h.pl ((slotsR l (rtI l (findSt l h).1.par)).getD j default) = false; exact ⟨Nat.zero_le _, fun j hj => absurd hj (Nat.not_lt_zero _)⟩) (We (ow := [(2, Own.box 2 (hdCell h) 26)]) (Vs rfl) (by exact ⟨⟨_, rfl, rfl, rfl, (An rfl)⟩, Z⟩)) <| ?_
    ·rintro i hI1
     have hJ1 : i ≤ (slotsR l (rtI l (findSt l h).1.par)).length ∧ ∀ j, j < i → inG h.pl ((slotsR l (rtI l (findSt l h).1.par)).getD j default) = false := hI1
     have hi1 := hJ1.1
     have hall := hJ1.2
     refine Sq <| Rq <| O (Lt (V rfl) (V rfl)) <| Nq <| Sq <| Cd (V rfl) (fun hc4 => ?_) (fun hc4 => ?_)
     ·have hc4s := hc4; try simp only [BL] at hc4s
      refine Sk <| Sq <| Bo <| Sq <| Rt <| U (IxN (i := i) (V rfl) (V rfl) ts27 te27 (by clear hall hJ1 hI1; omega)) <| U (LdA (V rfl) Ga41 Sz41 (by decide)) <| Al 4 zero41 rfl rfl <| StA (V rfl) rfl (V rfl) Sz41 <| Nt <| Sq <| Rq <| O (FlB _ _ (V rfl) Un41 rfl 0 Sz33) <| O (LdB (V rfl) rfl Ga33 (by decide)) <| O (FlB _ _ (V rfl) Un26 rfl 0 Sz3) <| O (LdB (V rfl) rfl Ga3 (by decide)) <| CQ en36 (by exact ⟨⟨(V rfl), rfl⟩, ⟨(V rfl), rfl⟩, Z⟩) (contains_ct (((slotsR l (rtI l ((findSt l h).1.par))).getD i default).given) h.pl) <| Nq <| Cd (V rfl) (fun hc5 => ?_) (fun hc5 => ?_)
      ·have hc5s := hc5; try simp only [BL] at hc5s
       exact Sq <| Rq <| O (FlB _ _ (V rfl) Un41 rfl 0 Sz3) <| O (LdB (V rfl) rfl Ga3 (by decide)) <| O (As (V rfl)) <| O (As K) <| Nq <| Rx <| R2 rfl (V rfl) (V rfl) rfl rfl (by show sv2 (iv (((slotsR l (rtI l ((findSt l h).1.par))).getD i default).pl)) (iv (0)) = sv2 (iv (givenSt l h).1) (iv (givenSt l h).2); rw [given_2 hf0, givenI_s hp (by rw [← hfe]; clear hall hJ1 hI1; omega), ← hfe, giv_hit (by clear hall hJ1 hI1; omega) hall hc5])
      ·have hc5s := hc5; try simp only [BL] at hc5s
       exact Sk <| Rq <| O (Ad (V rfl) K (by clear hall hJ1 hI1; omega)) <| O (Mv (V rfl)) <| Nq <| Nx (i + 1) (by show (i + 1) ≤ (slotsR l (rtI l (findSt l h).1.par)).length ∧ ∀ j, j < (i + 1) → inG h.pl ((slotsR l (rtI l (findSt l h).1.par)).getD j default) = false; exact ⟨by clear hall hJ1 hI1; omega, idxF_s (p := inG h.pl) hall hc5⟩) (by show (slotsR l (rtI l (findSt l h).1.par)).length - (i + 1) < (slotsR l (rtI l (findSt l h).1.par)).length - i; clear hall hJ1 hI1; omega) (We (ow := [(2, Own.box 2 (hdCell h) 26)]) (Vs rfl) (by exact ⟨⟨_, rfl, rfl, rfl, (An rfl)⟩, Z⟩))
     ·have hc4s := hc4; try simp only [BL] at hc4s
      exact Ex <| Sq <| Rq <| O (As K) <| O (As K) <| Nq <| Rx <| R2 rfl (V rfl) (V rfl) rfl rfl (by show sv2 (iv ((-1))) (iv (0)) = sv2 (iv (givenSt l h).1) (iv (givenSt l h).2); rw [given_2 hf0, givenI_s hp (by rw [← hfe]; clear hall hJ1 hI1; omega), ← hfe, giv_none (by clear hall hJ1 hI1; omega) hall])
   ·have hc3s := hc3; try simp only [BL] at hc3s
    exact Sk <| Sq <| Rq <| O (As K) <| O (As K) <| Nq <| Rx <| R2 rfl (V rfl) (V rfl) rfl rfl (by show sv2 (iv ((-1))) (iv (0)) = sv2 (iv (givenSt l h).1) (iv (givenSt l h).2); rw [given_2 hf0, givenI_r hp (by rw [← hfe]; omega)])
theorem shown_ct (l : List Nd) (k : Int) (hc : checkSt l = 0) (hk : 0 ≤ k ∧ k < (l.length : Int)) (hb : ∀ n ∈ l, n.kids.length ≤ 17592186043904) : Ct Try.prog 99 [SV.agg 1 (stG l), iv (k)] (inRow (shownL l k)) := by
 have h24 := checkSt_len hc
 have hrg := rt_ge l k
 have htl := topLn hc k hk
 have htr := htl.2.1
 have hsl := slotsR_len hc htr
 refine CtO 66 Try.func99 rfl rfl rfl fun E => row_lenA 0 (V (s := 0) rfl) rfl rfl fun hl0_0 => Sq <| Rt <| BxA 1 (V rfl) rfl rfl <| U (As (Vn (k := 1) (get := rowG inCell 0 []))) <| Nt <| Sq <| Sq <| Rq <| O (LBA (V rfl) rfl Ga24 Sz24 (by decide)) <| O (Mv (V rfl)) <| CQ en96 (by exact ⟨⟨(Vi (g' := stG l) (V rfl) ⟨Z, Ir⟩), rfl⟩, ⟨(V rfl), rfl⟩, Z⟩) (root_ct l k) <| O (As (V rfl)) <| Nq <| Sq <| Rq <| O (Mv (V rfl)) <| O (Ge (V rfl) K) <| Nq <| Cd (V rfl) (fun hc1 => ?_) (fun hc1 => ?_)
 ·have hc1s := hc1; try simp only [BL] at hc1s
  exact Sq <| Rq <| O (FlB _ _ (V rfl) Un24 rfl 0 Sz22) <| O (LdB (V rfl) rfl Ga22 (by decide)) <| O (Mv (V rfl)) <| O (Ix (V rfl) (V rfl) ts22 te22 (by first | omega | (clear hall hJ1 hI1; omega)) (by first | omega | (clear hall hJ1 hI1; omega))) <| O (Fl _ _ (V rfl) Un61 rfl 0 Sz33) <| O (Ld (V rfl) Ga33 (by decide)) <| O (As (V rfl)) <| Nq <| Rx <| R1 rfl (V rfl) rfl (by show inRow ((l.getD (Int.toNat (rtI l k)) default).kids) = inRow (shownL l k); rw [shown_r hc1s])
 ·have hc1s := hc1; try simp only [BL] at hc1s
  have hno : ¬ 0 ≤ rtI l k := hc1s
  refine Sk <| Sq <| Sq <| Rq <| O (LBA (V rfl) rfl Ga24 Sz24 (by decide)) <| O (Mv (V rfl)) <| CQ en137 (by exact ⟨⟨(Vi (g' := stG l) (V rfl) ⟨Z, Ir⟩), rfl⟩, ⟨(V rfl), rfl⟩, Z⟩) (top_ct l k (by assumption) (by first | assumption | omega)) <| O (As (V rfl)) <| Nq <| Sq <| Rq <| O (FlB _ _ (V rfl) Un24 rfl 0 Sz22) <| O (LdB (V rfl) rfl Ga22 (by decide)) <| O (Mv (V rfl)) <| O (Ix (V rfl) (V rfl) ts22 te22 (by first | omega | (clear hall hJ1 hI1; omega)) (by first | omega | (clear hall hJ1 hI1; omega))) <| O (Fl _ _ (V rfl) Un61 rfl 0 Sz3) <| O (Ld (V rfl) Ga3 (by decide)) <| O (Ge (V rfl) K) <| O (Mv (V rfl)) <| Og (Gy rfl rfl) (fun hg => FlB _ _ (V rfl) Un24 rfl 0 Sz22) <| Og (Gy rfl rfl) (fun hg => LdB (Vg (V rfl) hg) rfl Ga22 (by decide)) <| Og (Gy rfl rfl) (fun hg => Mv (V rfl)) <| Og (Gy rfl rfl) (fun hg => Ix (Vg (V rfl) hg) (Vg (V rfl) hg) ts22 te22 (by first | omega | (clear hall hJ1 hI1; omega)) (by first | omega | (clear hall hJ1 hI1; omega))) <| Og (Gy rfl rfl) (fun hg => Fl _ _ (Vg (V rfl) hg) Un61 rfl 0 Sz3) <| Og (Gy rfl rfl) (fun hg => Ld (Vg (V rfl) hg) Ga3 (by decide)) <| Og (Gy rfl rfl) (fun hg => Ge (Vg (V rfl) hg) K) <| O (Qa (V rfl) (fun h => Vg (V rfl) h)) <| Nq <| Cd (V rfl) (fun hc2 => ?_) (fun hc2 => ?_)
  ·have hc2s := hc2; try simp only [BL] at hc2s
   have hth : 90 ≤ (l.getD (Int.toNat k) default).tag ∧ 0 ≤ (l.getD (Int.toNat (topSt l k)) default).host := by simpa using hc2
   have hHH := hth.2
   refine Sq <| Rt <| U (LBA (V rfl) rfl Ga24 Sz24 (by decide)) <| U (Mv (V rfl)) <| CT en97 (by exact ⟨⟨(Vi (g' := stG l) (V rfl) ⟨Z, Ir⟩), rfl⟩, ⟨(V rfl), rfl⟩, Z⟩) (slots_ct l (topSt l k) (by assumption) (by first | assumption | omega) (by first | assumption | omega) (by first | assumption | exact kb_nil | exact kb_of (by assumption) | exact kb_of fam_c5)) <| U (Ln (V rfl) ts27) <| U (Mv K) <| Nt <| Bo <| Lo (fun (i : Nat) => ⟨[(1, iv (k)), (2, SV.bp 1 0), (41, slRow (slotsR l (topSt l k))), (42, iv (((slotsR l (topSt l k)).length : Int))), (43, iv ((i : Int)))], [(1, Own.box 1 (stG l) 24)]⟩) (fun (i : Nat) => i ≤ (slotsR l (topSt l k)).length ∧ ∀ j, j < i → inSlot k ((slotsR l (topSt l k)).getD j default) = false) (fun (i : Nat) => (slotsR l (topSt l k)).length - i) 0 (by show 0 ≤ (slotsR l (topSt l k)).length ∧ ∀ j, j < 0 → inSlot k ((slotsR l (topSt l k)).getD j default) = false; exact ⟨Nat.zero_le _, fun j hj => absurd hj (Nat.not_lt_zero _)⟩) (We (ow := [(1, Own.box 1 (stG l) 24)]) (Vs rfl) (by exact ⟨⟨_, rfl, rfl, rfl, (An rfl)⟩, Z⟩)) <| ?_
   ·rintro i hI1
    have hJ1 : i ≤ (slotsR l (topSt l k)).length ∧ ∀ j, j < i → inSlot k ((slotsR l (topSt l k)).getD j default) = false := hI1
    have hi1 := hJ1.1
    have hall := hJ1.2
    refine Sq <| Rq <| O (Lt (V rfl) (V rfl)) <| Nq <| Sq <| Cd (V rfl) (fun hc3 => ?_) (fun hc3 => ?_)
    ·have hc3s := hc3; try simp only [BL] at hc3s
     refine Sk <| Sq <| Bo <| Sq <| Rt <| U (IxN (i := i) (V rfl) (V rfl) ts27 te27 (by first | omega | (clear hall hJ1 hI1; omega))) <| U (LdA (V rfl) Ga41 Sz41 (by decide)) <| Al 2 zero41 rfl rfl <| StA (V rfl) rfl (V rfl) Sz41 <| Nt <| Sq <| Rq <| O (FlB _ _ (V rfl) Un41 rfl 0 Sz3) <| O (LdB (V rfl) rfl Ga3 (by decide)) <| O (Mv (V rfl)) <| O (Ql (V rfl) (V rfl)) <| O (Mv (V rfl)) <| Og (Gy rfl rfl) (fun hg => FlB _ _ (V rfl) Un41 rfl 0 Sz33) <| Og (Gy rfl rfl) (fun hg => LdB (Vg (V rfl) hg) rfl Ga33 (by decide)) <| Og (Gy rfl rfl) (fun hg => Ln (Vg (V rfl) hg) ts33) <| Og (Gy rfl rfl) (fun hg => Gt (Vg (V rfl) hg) K) <| O (Qa (V rfl) (fun h => Vg (V rfl) h)) <| Nq <| Cd (V rfl) (fun hc4 => ?_) (fun hc4 => ?_)
     ·have hc4s := hc4; try simp only [BL] at hc4s
      exact Sq <| Rq <| O (FlB _ _ (V rfl) Un41 rfl 0 Sz33) <| O (LdB (V rfl) rfl Ga33 (by decide)) <| O (As (V rfl)) <| Nq <| Rx <| R1 rfl (V rfl) rfl (by show inRow (((slotsR l (topSt l k)).getD i default).given) = inRow (shownL l k); rw [shown_hit hno hth (by clear hall hJ1 hI1; omega) hall (inSlot_t hc4)])
     ·have hc4s := hc4; try simp only [BL] at hc4s
      exact Sk <| Rq <| O (Ad (V rfl) K (by first | omega | (clear hall hJ1 hI1; omega))) <| O (Mv (V rfl)) <| Nq <| Nx (i + 1) (by show (i + 1) ≤ (slotsR l (topSt l k)).length ∧ ∀ j, j < (i + 1) → inSlot k ((slotsR l (topSt l k)).getD j default) = false; exact ⟨by clear hall hJ1 hI1; omega, idxF_s (p := inSlot k) hall (inSlot_f hc4)⟩) (by show (slotsR l (topSt l k)).length - (i + 1) < (slotsR l (topSt l k)).length - i; clear hall hJ1 hI1; omega) (We (ow := [(1, Own.box 1 (stG l) 24)]) (Vs rfl) (by exact ⟨⟨_, rfl, rfl, rfl, (An rfl)⟩, Z⟩))
    ·have hc3s := hc3; try simp only [BL] at hc3s
     exact Ex <| Sq <| Rq <| O (FlB _ _ (V rfl) Un24 rfl 0 Sz22) <| O (LdB (V rfl) rfl Ga22 (by decide)) <| O (Mv (V rfl)) <| O (Ix (V rfl) (V rfl) ts22 te22 (by first | omega | (clear hall hJ1 hI1; omega)) (by first | omega | (clear hall hJ1 hI1; omega))) <| O (Fl _ _ (V rfl) Un61 rfl 0 Sz33) <| O (Ld (V rfl) Ga33 (by decide)) <| O (As (V rfl)) <| Nq <| Rx <| R1 rfl (V rfl) rfl (by show inRow ((l.getD (Int.toNat k) default).kids) = inRow (shownL l k); rw [shown_none hno hth (by clear hall hJ1 hI1; omega) hall])
  ·have hc2s := hc2; try simp only [BL] at hc2s
   have hth : ¬ (90 ≤ (l.getD (Int.toNat k) default).tag ∧ 0 ≤ (l.getD (Int.toNat (topSt l k)) default).host) := fun q => by rw [decide_eq_true q.1, decide_eq_true q.2] at hc2; cases hc2
   exact Sk <| Sq <| Rq <| O (FlB _ _ (V rfl) Un24 rfl 0 Sz22) <| O (LdB (V rfl) rfl Ga22 (by decide)) <| O (Mv (V rfl)) <| O (Ix (V rfl) (V rfl) ts22 te22 (by first | omega | (clear hall hJ1 hI1; omega)) (by first | omega | (clear hall hJ1 hI1; omega))) <| O (Fl _ _ (V rfl) Un61 rfl 0 Sz33) <| O (Ld (V rfl) Ga33 (by decide)) <| O (As (V rfl)) <| Nq <| Rx <| R1 rfl (V rfl) rfl (by show inRow ((l.getD (Int.toNat k) default).kids) = inRow (shownL l k); rw [shown_k hno hth])
theorem flatF_ct (l : List Nd) (h : Hd) (hb : ∀ n ∈ l, n.kids.length ≤ 17592186043904) : Ct Try.prog 23 [SV.agg 1 (stG l), SV.agg 2 (hdCell h)] (sv2 (inRow (flatSt l h).1) (iv (flatSt l h).2)) := by
 refine CtO 39 Try.func23 rfl rfl rfl fun E => row_lenA 0 (V (s := 0) rfl) rfl rfl fun hl0_0 => Sq <| Rt <| BxA 1 (V rfl) rfl rfl <| BxA 2 (V rfl) rfl rfl <| U (As (Vn (k := 1) (get := rowG inCell 0 []))) <| U (As K) <| Nt <| Sq <| Sq <| Rt <| U (LBA (V rfl) rfl Ga24 Sz24 (by decide)) <| U (LBA (V rfl) rfl Ga26 Sz26 (by decide)) <| CT en46 (by exact ⟨⟨(Vi (g' := stG l) (V rfl) ⟨Z, Ir⟩), rfl⟩, ⟨(Vi (g' := hdCell ⟨h.pl, h.use⟩) (V rfl) ⟨⟨Z, Ir⟩, Ir⟩), rfl⟩, Z⟩) (find_ct l h (by first | assumption | exact kb_nil | exact kb_of (by assumption) | exact kb_of fam_c5)) <| U (Mv (V rfl)) <| U (Xt (V rfl) (by decide)) <| U (Xt (V rfl) (by decide)) <| Al 3 zero61 rfl rfl <| StA (V rfl) rfl (V rfl) Sz61 <| U (As (V rfl)) <| Nt <| Sq <| Rq <| O (Mv (V rfl)) <| O (Qn (V rfl) K) <| Nq <| Cd (V rfl) (fun hc1 => ?_) (fun hc1 => ?_)
 ·have hc1s := hc1; try simp only [BL] at hc1s
  exact Sq <| Rq <| O (Mv (V rfl)) <| O (As (Vn (k := 1) (get := rowG inCell 0 []))) <| O (As (V rfl)) <| Nq <| Rx <| R2 rfl (V rfl) (V rfl) rfl rfl (by show sv2 (inRow ([])) (iv ((findSt l h).2)) = sv2 (inRow (flatSt l h).1) (iv (flatSt l h).2); rw [flat_1 (fun z => hc1s ((first_find l h).symm.trans z)), first_find])
 ·have hc1s := hc1; try simp only [BL] at hc1s
  have hf0 : firstSt l [h] = 0 := (first_find l h).trans hc1s
  have hc0 := (first1 hf0).1
  have hpl := (first1 hf0).2.2.1
  have hfo := (find_ok hc1s).2.2
  have h24 := checkSt_len hc0
  refine Sk <| Sq <| Rt <| U (FlB _ _ (V rfl) Un26 rfl 0 Sz3) <| U (LdB (V rfl) rfl Ga3 (by decide)) <| t_bsO 4 (n := 1) (zget := fun _ => iv 0) [(fun _ => iv (h.pl))] (rowG inCell 0 [h.pl]) Un33 Sz3 zero3 (by decide) (by decide) rfl (by decide) ⟨⟨rfl, .inr ⟨rfl, (V rfl), rfl⟩, rfl⟩, Z⟩ ⟨Z, ⟨Z, rfl⟩⟩ rfl <| U (As (V rfl)) <| Nt <| Sq <| Sq <| Rq <| O (As K) <| Nq <| Bo <| c_mv 4 60 rfl rfl <| c_ownE 60 (([h.pl])) rfl (by rfl) <| Lo (uc2 fun (i : Nat) (L : List Int) => ⟨[(2, SV.bp 1 0), (8, SV.own 60), (9, iv ((i : Int)))], [(1, Own.box 1 (fun zt => SV.renm (mvN 4 60) ((stG l) zt)) 24), (60, ownOf inCell 1 0 L 3)]⟩) (uc2 fun (i : Nat) (L : List Int) => FlI l h.pl i L) (uc2 fun (i : Nat) (L : List Int) => (flatP l h.pl).length - i) (0, [h.pl]) (by show FlI l h.pl 0 ([h.pl]); exact fl_0 l h.pl) (We (ow := [(1, Own.box 1 (fun zt => SV.renm (mvN 4 60) ((stG l) zt)) 24), (60, ownOf inCell 1 0 (([h.pl])) 3)]) (Vs rfl) (by exact ⟨⟨_, rfl, rfl, rfl, (An rfl)⟩, ⟨_, rfl, rfl⟩, Z⟩)) <| ?_
  ·rintro ⟨i, L⟩ hI1
   have hJ1 : FlI l h.pl i L := hI1
   have hfl := fl_len hc0 hpl hJ1
   have hfp := flat_len2 hc0 hpl
   refine Sq <| Sq <| Rq <| O (Mv (V rfl)) <| O (Mv (V rfl)) <| O (LnO (V rfl) rfl ts33) <| O (Lt (V rfl) (V rfl)) <| Nq <| Cd (V rfl) (fun hc2 => ?_) (fun hc2 => ?_)
   ·have hc2s := hc2; try simp only [BL] at hc2s
    have hil : i < L.length := by omega
    have hfs := fl_s hc0 hpl hJ1 hil
    have hin := (under_in hc0 hpl hfs.2).1
    have hfn := fl_len hc0 hpl hfs.1
    have hln := congrArg List.length (rfl : L.take (i + 1) ++ shownL l (L.getD i 0) ++ L.drop (i + 1) = L.take (i + 1) ++ shownL l (L.getD i 0) ++ L.drop (i + 1))
    have hsn : L.length + (shownL l (L.getD i 0)).length ≤ (flatP l h.pl).length := by have := hfn.2; rw [List.length_append, List.length_append, List.length_take, List.length_drop] at this; omega
    refine Sk <| Sq <| Bo <| c_rd (fun e => ⟨[(28, cj (e 0) (SV.own 60)), (29, cj (e 1) (iv ((i : Int)))), (30, cj (e 2) (iv (((i : Int)) + 1))), (31, cj (e 3) (SV.agg 1 (fun zi => (fun zt => SV.renm (mvN 4 60) ((stG l) zt)) (0 + zi)))), (32, cj (e 4) (SV.own 60)), (33, cj (e 5) (iv ((i : Int)))), (34, cj (e 6) (SV.oe 60 1 i 0)), (35, cj (e 7) (iv ((L.getD i 0)))), (36, cj (e 8) (inRow (shownL l ((L.getD i 0))))), (37, cj (e 9) (SV.own 5)), (8, cv (e 10) (SV.own 5) (SV.own 60)), (2, SV.bp 1 0), (9, iv ((i : Int)))], (cb (e 9) [(1, Own.box 1 (fun zt => SV.renm (mvN 4 60) ((stG l) zt)) 24), (5, ownOf inCell 1 0 (L.take (Int.toNat (((i : Int)) + 1)) ++ (shownL l ((L.getD i 0))) ++ L.drop (Int.toNat (((i : Int)) + 1))) 3)] [(1, Own.box 1 (fun zt => SV.renm (mvN 4 60) ((stG l) zt)) 24), (60, ownOf inCell 1 0 L 3)])⟩) ⟨[(29, iv ((i : Int))), (30, iv (((i : Int)) + 1)), (31, SV.agg 1 (fun zi => (fun zt => SV.renm (mvN 4 60) ((stG l) zt)) (0 + zi))), (33, iv ((i : Int))), (35, iv ((L.getD i 0))), (36, inRow (shownL l ((L.getD i 0)))), (8, SV.own 5), (2, SV.bp 1 0), (9, iv ((i : Int)))], [(1, Own.box 1 (fun zt => SV.renm (mvN 4 60) ((stG l) zt)) 24), (5, ownOf inCell 1 0 (L.take (Int.toNat (((i : Int)) + 1)) ++ (shownL l ((L.getD i 0))) ++ L.drop (Int.toNat (((i : Int)) + 1))) 3)]⟩ (by kernel_rfl) (by kernel_rfl) ?_ ⟨?_, ?_, ?_, ?_, ?_, ?_, ?_, ?_, ?_, ?_, ?_, Z⟩ ?_ ?_
    ·show Weak _ _ ⟨[(28, SV.junk), (29, SV.junk), (30, SV.junk), (31, SV.junk), (32, SV.junk), (33, SV.junk), (34, SV.junk), (35, SV.junk), (36, SV.junk), (37, SV.junk), (8, SV.own 60), (2, SV.bp 1 0), (9, iv ((i : Int)))], [(1, Own.box 1 (fun zt => SV.renm (mvN 4 60) ((stG l) zt)) 24), (60, ownOf inCell 1 0 L 3)]⟩
     refine We ?_ ?_
     ·exact ⟨Vj, Vj, Vj, Vj, Vj, Vj, Vj, Vj, Vj, Vj, V rfl, V rfl, V rfl, Z⟩
     ·exact ⟨⟨_, rfl, ⟨rfl, rfl, (An rfl)⟩⟩, ⟨_, rfl, rfl⟩, Z⟩
    ·intro e hdn he hdp
     obtain ⟨h9, h10, -⟩ := dns1 hdn he [9, 10] (by kernel_rfl)
     simp only [setE, he, h9, h10, cj_t, cj_f, cjn_t, cjn_f, cb_t, cb_f, cv_t, cv_f]
     refine U (Mv (V rfl)) <| Nt <| We ?_ ?_
     ·exact ⟨V rfl, V rfl, V rfl, V rfl, V rfl, V rfl, V rfl, V rfl, V rfl, Vj, V rfl, V rfl, V rfl, Z⟩
     ·exact ⟨⟨_, rfl, ⟨rfl, rfl, (An rfl)⟩⟩, ⟨_, rfl, rfl⟩, Z⟩
    ·intro e hdn he hdp
     obtain ⟨-, h9, -⟩ := dns1 hdn he [2, 9] (by kernel_rfl)
     simp only [setE, he, h9, cj_t, cj_f, cjn_t, cjn_f, cb_t, cb_f, cv_t, cv_f]
     refine U (Mv (V rfl)) <| Nt <| We ?_ ?_
     ·exact ⟨V rfl, V rfl, V rfl, V rfl, V rfl, V rfl, V rfl, V rfl, V rfl, Vj, V rfl, V rfl, V rfl, Z⟩
     ·exact ⟨⟨_, rfl, ⟨rfl, rfl, (An rfl)⟩⟩, ⟨_, rfl, rfl⟩, Z⟩
    ·intro e hdn he hdp
     obtain ⟨h1, -⟩ := ups hdn [1] hdp (by kernel_rfl)
     obtain ⟨h9, -⟩ := dns1 hdn he [9] (by kernel_rfl)
     simp only [setE, h1, he, h9, cj_t, cj_f, cjn_t, cjn_f, cb_t, cb_f, cv_t, cv_f]
     refine U (Ad (V rfl) K (by omega)) <| Nt <| We ?_ ?_
     ·exact ⟨V rfl, V rfl, V rfl, V rfl, V rfl, V rfl, V rfl, V rfl, V rfl, Vj, V rfl, V rfl, V rfl, Z⟩
     ·exact ⟨⟨_, rfl, ⟨rfl, rfl, (An rfl)⟩⟩, ⟨_, rfl, rfl⟩, Z⟩
    ·intro e hdn he hdp
     obtain ⟨-, h9, -⟩ := dns1 hdn he [8, 9] (by kernel_rfl)
     simp only [setE, he, h9, cj_t, cj_f, cjn_t, cjn_f, cb_t, cb_f, cv_t, cv_f]
     refine U (LBA (V rfl) rfl Ga24 Sz24 (by decide)) <| Nt <| We ?_ ?_
     ·exact ⟨V rfl, V rfl, V rfl, V rfl, V rfl, V rfl, V rfl, V rfl, V rfl, Vj, V rfl, V rfl, V rfl, Z⟩
     ·exact ⟨⟨_, rfl, ⟨rfl, rfl, (An rfl)⟩⟩, ⟨_, rfl, rfl⟩, Z⟩
    ·intro e hdn he hdp
     obtain ⟨-, -, -, h9, h10, -⟩ := dns1 hdn he [6, 7, 8, 9, 10] (by kernel_rfl)
     simp only [setE, he, h9, h10, cj_t, cj_f, cjn_t, cjn_f, cb_t, cb_f, cv_t, cv_f]
     refine U (Mv (V rfl)) <| Nt <| We ?_ ?_
     ·exact ⟨V rfl, V rfl, V rfl, V rfl, V rfl, V rfl, V rfl, V rfl, V rfl, Vj, V rfl, V rfl, V rfl, Z⟩
     ·exact ⟨⟨_, rfl, ⟨rfl, rfl, (An rfl)⟩⟩, ⟨_, rfl, rfl⟩, Z⟩
    ·intro e hdn he hdp
     obtain ⟨-, -, -, h9, -⟩ := dns1 hdn he [6, 7, 8, 9] (by kernel_rfl)
     simp only [setE, he, h9, cj_t, cj_f, cjn_t, cjn_f, cb_t, cb_f, cv_t, cv_f]
     refine U (Mv (V rfl)) <| Nt <| We ?_ ?_
     ·exact ⟨V rfl, V rfl, V rfl, V rfl, V rfl, V rfl, V rfl, V rfl, V rfl, Vj, V rfl, V rfl, V rfl, Z⟩
     ·exact ⟨⟨_, rfl, ⟨rfl, rfl, (An rfl)⟩⟩, ⟨_, rfl, rfl⟩, Z⟩
    ·intro e hdn he hdp
     obtain ⟨h5, h4, -⟩ := ups hdn [5, 4] hdp (by kernel_rfl)
     obtain ⟨-, -, h9, -⟩ := dns1 hdn he [7, 8, 9] (by kernel_rfl)
     simp only [setE, h4, h5, he, h9, cj_t, cj_f, cjn_t, cjn_f, cb_t, cb_f, cv_t, cv_f]
     refine U (IOn (i := i) (V rfl) rfl (V rfl) ts33 te33 (by omega)) <| Nt <| We ?_ ?_
     ·exact ⟨V rfl, V rfl, V rfl, V rfl, V rfl, V rfl, V rfl, V rfl, V rfl, Vj, V rfl, V rfl, V rfl, Z⟩
     ·exact ⟨⟨_, rfl, ⟨rfl, rfl, (An rfl)⟩⟩, ⟨_, rfl, rfl⟩, Z⟩
    ·intro e hdn he hdp
     obtain ⟨h6, h5, h4, -⟩ := ups hdn [6, 5, 4] hdp (by kernel_rfl)
     obtain ⟨-, h9, -⟩ := dns1 hdn he [8, 9] (by kernel_rfl)
     simp only [setE, h4, h5, h6, he, h9, cj_t, cj_f, cjn_t, cjn_f, cb_t, cb_f, cv_t, cv_f]
     refine U (LdO (V rfl) rfl Ga3 (by decide)) <| Nt <| We ?_ ?_
     ·exact ⟨V rfl, V rfl, V rfl, V rfl, V rfl, V rfl, V rfl, V rfl, V rfl, Vj, V rfl, V rfl, V rfl, Z⟩
     ·exact ⟨⟨_, rfl, ⟨rfl, rfl, (An rfl)⟩⟩, ⟨_, rfl, rfl⟩, Z⟩
    ·intro e hdn he hdp
     obtain ⟨h7, h6, h5, h4, h3, -⟩ := ups hdn [7, 6, 5, 4, 3] hdp (by kernel_rfl)
     obtain ⟨h9, -⟩ := dns1 hdn he [9] (by kernel_rfl)
     simp only [setE, h3, h4, h5, h6, h7, he, h9, cj_t, cj_f, cjn_t, cjn_f, cb_t, cb_f, cv_t, cv_f]
     refine CT en99 (by exact ⟨⟨(Vi (g' := stG l) (V rfl) ⟨Z, Ir⟩), rfl⟩, ⟨(V rfl), rfl⟩, Z⟩) (shown_ct l ((L.getD i 0)) (by assumption) (by first | assumption | omega) (by first | assumption | exact kb_nil | exact kb_of (by assumption) | exact kb_of fam_c5)) <| Nt <| We ?_ ?_
     ·exact ⟨V rfl, V rfl, V rfl, V rfl, V rfl, V rfl, V rfl, V rfl, V rfl, Vj, V rfl, V rfl, V rfl, Z⟩
     ·exact ⟨⟨_, rfl, ⟨rfl, rfl, (An rfl)⟩⟩, ⟨_, rfl, rfl⟩, Z⟩
    ·intro e hdn he hdp
     obtain ⟨h8, h7, h6, h5, h4, h3, h2, h1, h0, -⟩ := ups hdn [8, 7, 6, 5, 4, 3, 2, 1, 0] hdp (by kernel_rfl)
     obtain ⟨h10, -⟩ := dns1 hdn he [10] (by kernel_rfl)
     simp only [setE, h0, h1, h2, h3, h4, h5, h6, h7, h8, he, h10, cj_t, cj_f, cjn_t, cjn_f, cb_t, cb_f, cv_t, cv_f]
     refine CM (cargs := [SV.own 1000, iv (((i : Int)) + 1), inRow (shownL l ((L.getD i 0)))]) [(1000, 60)] [(0, 5)] en98 (by exact ⟨(V rfl), (V rfl), (V rfl), Z⟩) (insI_ct L (shownL l ((L.getD i 0))) (((i : Int)) + 1) (by first | omega | assumption) (by first | omega | (simp only [List.length_cons, List.length_nil]; omega) | assumption)) (by exact ⟨⟨_, rfl, rfl⟩, Z⟩) rfl (freshN_cons (fresh_mk ⟨rfl, rfl, rfl, rfl, rfl, rfl, rfl, rfl, rfl, rfl, rfl, rfl, rfl, Z⟩ rfl rfl) rfl rfl) rfl rfl <| Nt <| We ?_ ?_
     ·exact (Vs rfl)
     ·exact ⟨⟨_, rfl, ⟨rfl, rfl, (An rfl)⟩⟩, ⟨_, rfl, rfl⟩, Z⟩
    ·intro e hdn he hdp
     obtain ⟨h9, h8, h7, h6, h5, h4, h3, h2, h1, h0, -⟩ := ups hdn [9, 8, 7, 6, 5, 4, 3, 2, 1, 0] hdp (by kernel_rfl)
     simp only [setE, h0, h1, h2, h3, h4, h5, h6, h7, h8, h9, he, cj_t, cj_f, cjn_t, cjn_f, cb_t, cb_f, cv_t, cv_f]
     refine U (As (V rfl)) <| Nt <| We ?_ ?_
     ·exact (Vs rfl)
     ·exact ⟨⟨_, rfl, ⟨rfl, rfl, (An rfl)⟩⟩, ⟨_, rfl, rfl⟩, Z⟩
    ·intro e he
     have h0 := he 0 (by decide)
     have h1 := he 1 (by decide)
     have h2 := he 2 (by decide)
     have h3 := he 3 (by decide)
     have h4 := he 4 (by decide)
     have h5 := he 5 (by decide)
     have h6 := he 6 (by decide)
     have h7 := he 7 (by decide)
     have h8 := he 8 (by decide)
     have h9 := he 9 (by decide)
     have h10 := he 10 (by decide)
     show Weak _ ⟨[(28, cj (e 0) (SV.own 60)), (29, cj (e 1) (iv ((i : Int)))), (30, cj (e 2) (iv (((i : Int)) + 1))), (31, cj (e 3) (SV.agg 1 (fun zi => (fun zt => SV.renm (mvN 4 60) ((stG l) zt)) (0 + zi)))), (32, cj (e 4) (SV.own 60)), (33, cj (e 5) (iv ((i : Int)))), (34, cj (e 6) (SV.oe 60 1 i 0)), (35, cj (e 7) (iv ((L.getD i 0)))), (36, cj (e 8) (inRow (shownL l ((L.getD i 0))))), (37, cj (e 9) (SV.own 5)), (8, cv (e 10) (SV.own 5) (SV.own 60)), (2, SV.bp 1 0), (9, iv ((i : Int)))], (cb (e 9) [(1, Own.box 1 (fun zt => SV.renm (mvN 4 60) ((stG l) zt)) 24), (5, ownOf inCell 1 0 (L.take (Int.toNat (((i : Int)) + 1)) ++ (shownL l ((L.getD i 0))) ++ L.drop (Int.toNat (((i : Int)) + 1))) 3)] [(1, Own.box 1 (fun zt => SV.renm (mvN 4 60) ((stG l) zt)) 24), (60, ownOf inCell 1 0 L 3)])⟩ _
     simp only [h0, h1, h2, h3, h4, h5, h6, h7, h8, h9, h10]
     show Weak _ ⟨[(28, SV.own 60), (29, iv ((i : Int))), (30, iv (((i : Int)) + 1)), (31, SV.agg 1 (fun zi => (fun zt => SV.renm (mvN 4 60) ((stG l) zt)) (0 + zi))), (32, SV.own 60), (33, iv ((i : Int))), (34, SV.oe 60 1 i 0), (35, iv ((L.getD i 0))), (36, inRow (shownL l ((L.getD i 0)))), (37, SV.own 5), (8, SV.own 5), (2, SV.bp 1 0), (9, iv ((i : Int)))], [(1, Own.box 1 (fun zt => SV.renm (mvN 4 60) ((stG l) zt)) 24), (5, ownOf inCell 1 0 (L.take (Int.toNat (((i : Int)) + 1)) ++ (shownL l ((L.getD i 0))) ++ L.drop (Int.toNat (((i : Int)) + 1))) 3)]⟩ _
     refine We ?_ ?_
     ·exact ⟨V rfl, V rfl, Va (V rfl) (An rfl), V rfl, V rfl, V rfl, V rfl, V rfl, V rfl, Z⟩
     ·exact ⟨⟨_, rfl, ⟨rfl, rfl, (An rfl)⟩⟩, ⟨_, rfl, rfl⟩, Z⟩
    exact Rq <| O (Mv (V rfl)) <| O (Ad (V rfl) K (by omega)) <| O (As (V rfl)) <| Nq <| k_mv 5 60 rfl rfl <| k_ownE 60 ((L.take (i + 1) ++ shownL l (L.getD i 0) ++ L.drop (i + 1))) rfl (by rw [show Int.toNat ((i : Int) + 1) = i + 1 by omega]) <| Nx (i + 1, L.take (i + 1) ++ shownL l (L.getD i 0) ++ L.drop (i + 1)) (by show FlI l h.pl (i + 1) (L.take (i + 1) ++ shownL l (L.getD i 0) ++ L.drop (i + 1)); exact hfs.1) (by show (flatP l h.pl).length - (i + 1) < (flatP l h.pl).length - i; omega) (We (ow := [(1, Own.box 1 (fun zt => SV.renm (mvN 4 60) ((stG l) zt)) 24), (60, ownOf inCell 1 0 ((L.take (i + 1) ++ shownL l (L.getD i 0) ++ L.drop (i + 1))) 3)]) (Vs rfl) (by exact ⟨⟨_, rfl, rfl, rfl, (An rfl)⟩, ⟨_, rfl, rfl⟩, Z⟩))
   ·have hc2s := hc2; try simp only [BL] at hc2s
    exact Ex <| Sq <| Rq <| O (Mv (V rfl)) <| O (As (V rfl)) <| O (As K) <| Nq <| FzC 60 rfl <| Rx <| R2 rfl (V rfl) (V rfl) rfl rfl (by show sv2 (inRow L) (iv (0)) = sv2 (inRow (flatSt l h).1) (iv (flatSt l h).2); rw [flat_2 hf0, fl_end hJ1 (by omega)])
end Go.Proofs.Ytmcdamcedemdiaa
namespace Go.Proofs.Ytmcdamcedemdiaa
open Go.RowKit Go.Eng
theorem zero49 : ZeroOk Try.prog 49 1 (fun _ => SV.v (.map none)) := by
  refine ⟨_, Try.zeroValue49, rfl, fun t ht => ?_⟩
  match t, ht with
  | 0, _ => exact ⟨_, rfl, rfl, fun _ _ => rfl⟩
def FltCt (l : List Nd) (n : Nat) : Prop := ∀ (k : Int) (acc : List Int), 0 ≤ k ∧ k < (l.length : Int) → 3 ^ l.length < rk l k + n → acc.length + (preN (shownL l) n k).length ≤ 1000 → CtM Try.prog 101 [iv (k), SV.bp 1000 0, elB [ndRow l] 0, SV.bp 1002 0, elB [mapSV (bmap (gvM l l.length))] 0] [(1000, Own.box 1 (fun _ => SV.own 1001) 33), (1001, ownOf inCell 1 0 acc 3), (1002, Own.box 1 (fun _ => fnL 101 [SV.bp 1000 0, elB [ndRow l] 0, SV.bp 1002 0, elB [mapSV (bmap (gvM l l.length))] 0]) 112)] sv0 [(1000, Own.box 1 (fun _ => SV.own 0) 33), (0, ownOf inCell 1 0 (acc ++ preN (shownL l) n k) 3), (1002, Own.box 1 (fun _ => fnL 101 [SV.bp 1000 0, elB [ndRow l] 0, SV.bp 1002 0, elB [mapSV (bmap (gvM l l.length))] 0]) 112)]
theorem flatK_ct (l : List Nd) (n : Nat) (hc : checkSt l = 0) (ih : FltCt l n) (k : Int) (acc : List Int) (hk : 0 ≤ k ∧ k < (l.length : Int)) (hn : 3 ^ l.length < rk l k + (n + 1)) (hr : acc.length + (preN (shownL l) (n + 1) k).length ≤ 1000) (hb : ∀ n ∈ l, n.kids.length ≤ 17592186043904) : CtM Try.prog 101 [iv (k), SV.bp 1000 0, elB [ndRow l] 0, SV.bp 1002 0, elB [mapSV (bmap (gvM l l.length))] 0] [(1000, Own.box 1 (fun _ => SV.own 1001) 33), (1001, ownOf inCell 1 0 acc 3), (1002, Own.box 1 (fun _ => fnL 101 [SV.bp 1000 0, elB [ndRow l] 0, SV.bp 1002 0, elB [mapSV (bmap (gvM l l.length))] 0]) 112)] (sv0) [(1000, Own.box 1 (fun _ => SV.own 0) 33), (0, ownOf inCell 1 0 (acc ++ preN (shownL l) (n + 1) k) 3), (1002, Own.box 1 (fun _ => fnL 101 [SV.bp 1000 0, elB [ndRow l] 0, SV.bp 1002 0, elB [mapSV (bmap (gvM l l.length))] 0]) 112)] := by
 have h24 := checkSt_len hc
 have hrg := rt_ge l k
 have hpo := preO_pos (l := l) n k
 refine CmO 86 Try.func101 rfl rfl rfl fun E => Sq <| Rt <| U (LdB (V rfl) rfl Ga33 (by decide)) <| U (Mv (V rfl)) <| Uw (w_bs (n := 1) (zget := fun _ => iv 0) [(fun _ => iv (k))] (rowG inCell 0 [k]) Un33 Sz3 zero3 (by decide) rfl (by decide) ⟨⟨rfl, .inr ⟨rfl, (V rfl), rfl⟩, rfl⟩, Z⟩ ⟨Z, ⟨Z, rfl⟩⟩) <| Ap 1 (rowG inCell 0 (acc ++ ([k]))) eo33 (V rfl) rfl (V rfl) rfl (len_app acc ([k])) (by first | (simp only [maxLen, List.length_append, List.length_set, List.length_nil, List.length_cons]; omega) | (simp only [maxLen]; omega)) (by first | (simp only [List.length_append, List.length_set, List.length_nil, List.length_cons]; omega) | (omega)) (app_typed (l := acc) (m := ([k]))) <| t_st1V (V rfl) rfl (V rfl) (one_own rfl) Sz33 (by decide) <| Nt <| Sq <| Sq <| Rq <| O (LdA (V rfl) Ga24 Sz24 (by show 0 + 1 ≤ 1; decide)) <| O (Mv (V rfl)) <| CQ en102 (by exact ⟨⟨(Vi (g' := stG l) (V rfl) ⟨Z, Ir⟩), rfl⟩, ⟨(V rfl), rfl⟩, Z⟩) (rootR_ct l k) <| O (As (V rfl)) <| Nq <| Sq <| Rq <| O (Mv (V rfl)) <| O (Qn (V rfl) K) <| Nq <| Cd (V rfl) (fun hc1 => ?_) (fun hc1 => ?_)
 ·have hc1s := hc1; try simp only [BL] at hc1s
  have hq : 0 ≤ rtI l k := by omega
  have hra := rt_all hc hk hq
  have hkf := kids_few hc (i := Int.toNat (rtI l k)) (by omega)
  rw [doc_r hc hk hq, List.length_cons] at hr
  refine Sq <| Sq <| Rq <| O (Fl _ _ (V rfl) Un24 rfl 0 Sz22) <| O (Ld (V rfl) Ga22 (by show 0 < 1; decide)) <| O (Mv (V rfl)) <| O (Ix (V rfl) (V rfl) ts22 te22 (by first | omega | exact hdg.2.1.1 | exact hdg.2.2.1) (by first | omega | exact hdg.1 | exact hdg.2.1.2 | exact hdg.2.2.2)) <| O (Fl _ _ (V rfl) Un61 rfl 0 Sz33) <| O (Ld (V rfl) Ga33 (by decide)) <| O (Ln (V rfl) ts33) <| O (Mv K) <| Nq <| Bo <| c_mv 1 60 rfl rfl <| c_ownE 60 (acc ++ [k] ++ ((l.getD (Int.toNat (rtI l k)) default).kids.take 0).flatMap (preN (shownL l) n)) rfl (by simp) <| Lo (fun (j : Nat) => ⟨[(3, SV.bp 1002 0), (28, inRow ((l.getD (Int.toNat (rtI l k)) default).kids)), (29, iv ((((l.getD (Int.toNat (rtI l k)) default).kids).length : Int))), (30, iv ((j : Int)))], [(60, ownOf inCell 1 0 (acc ++ [k] ++ ((l.getD (Int.toNat (rtI l k)) default).kids.take j).flatMap (preN (shownL l) n)) 3), (1000, Own.box 1 (fun _ => SV.own 60) 33), (1002, Own.box 1 (fun zt => SV.renm (mvN 1 60) ((fun _ => fnL 101 [SV.bp 1000 0, elB [ndRow l] 0, SV.bp 1002 0, elB [mapSV (bmap (gvM l l.length))] 0]) zt)) 112)]⟩) (fun (j : Nat) => j ≤ (l.getD (Int.toNat (rtI l k)) default).kids.length) (fun (j : Nat) => (l.getD (Int.toNat (rtI l k)) default).kids.length - j) 0 (by show 0 ≤ (l.getD (Int.toNat (rtI l k)) default).kids.length; exact Nat.zero_le _) (We (ow := [(60, ownOf inCell 1 0 (acc ++ [k] ++ ((l.getD (Int.toNat (rtI l k)) default).kids.take 0).flatMap (preN (shownL l) n)) 3), (1000, Own.box 1 (fun _ => SV.own 60) 33), (1002, Own.box 1 (fun zt => SV.renm (mvN 1 60) ((fun _ => fnL 101 [SV.bp 1000 0, elB [ndRow l] 0, SV.bp 1002 0, elB [mapSV (bmap (gvM l l.length))] 0]) zt)) 112)]) (Vs rfl) (by exact ⟨⟨_, rfl, rfl⟩, ⟨_, rfl, rfl, rfl, (An rfl)⟩, ⟨_, rfl, rfl, rfl, ⟨Z, (by first | rfl | (simp only [renm_fnL]; rfl))⟩⟩, Z⟩)) <| ?_
  ·rintro j hI1
   have hJ1 : j ≤ (l.getD (Int.toNat (rtI l k)) default).kids.length := hI1
   have hjl := hJ1
   refine Sq <| Rq <| O (Lt (V rfl) (V rfl)) <| Nq <| Sq <| Cd (V rfl) (fun hc2 => ?_) (fun hc2 => ?_)
   ·have hc2s := hc2; try simp only [BL] at hc2s
    have hjk : j < (l.getD (Int.toNat (rtI l k)) default).kids.length := by omega
    have hcm : (l.getD (Int.toNat (rtI l k)) default).kids.getD j 0 ∈ shownL l k := by rw [shown_r hq]; exact mem_getD hjk
    have hsm := sh_mem hc hk hcm
    have hfr := flat_take_le (f := preN (shownL l) n) (l.getD (Int.toNat (rtI l k)) default).kids (j + 1)
    rw [flat_take_1 hjk, List.length_append] at hfr
    refine Sk <| Sq <| Bo <| Sq <| Rq <| O (IxN (i := j) (V rfl) (V rfl) ts33 te33 (by first | omega | exact hdg.1 | exact hdg.2.1.2 | exact hdg.2.2.2)) <| O (Ld (V rfl) Ga3 (by decide)) <| O (As (V rfl)) <| Nq <| Rt <| U (LdB (V rfl) rfl Ga112 (by decide)) <| U (Mv (V rfl)) <| CMv (cargs := [iv ((((l.getD (Int.toNat (rtI l k)) default).kids).getD j 0))]) (caps := [SV.bp 1000 0, elB [ndRow l] 0, SV.bp 1002 0, elB [mapSV (bmap (gvM l l.length))] 0]) [(1000, 1000), (1001, 60), (1002, 1002)] [(0, 2)] (fnval_L (VF [SV.bp 1000 0, elB [ndRow l] 0, SV.bp 1002 0, elB [mapSV (bmap (gvM l l.length))] 0] ((V rfl)) (An rfl))) en101 (by exact ⟨(V rfl), Z⟩) (ih ((((l.getD (Int.toNat (rtI l k)) default).kids).getD j 0)) (acc ++ [k] ++ ((l.getD (Int.toNat (rtI l k)) default).kids.take j).flatMap (preN (shownL l) n)) hsm.1 (by omega) (by first | omega | (simp only [List.length_append, List.length_cons, List.length_nil]; omega))) (by exact ⟨⟨_, rfl, ⟨rfl, rfl, (An rfl)⟩⟩, ⟨_, rfl, rfl⟩, ⟨_, rfl, ⟨rfl, rfl, ⟨Z, (by first | rfl | (simp only [renm_fnL]; rfl))⟩⟩⟩, Z⟩) rfl rfl rfl rfl <| Nt <| Rq <| O (Ad (V rfl) K (by omega)) <| O (Mv (V rfl)) <| Nq <| k_mv 2 60 rfl rfl <| k_ownE 60 (acc ++ [k] ++ ((l.getD (Int.toNat (rtI l k)) default).kids.take ((j + 1))).flatMap (preN (shownL l) n)) rfl (by rw [flat_take_1 (by omega)]; simp only [List.append_assoc]) <| Nx (j + 1) (by show (j + 1) ≤ (l.getD (Int.toNat (rtI l k)) default).kids.length; first | omega | (simp; done) | (refine ⟨?_, ?_⟩ <;> first | omega | (simp; done))) (by show (l.getD (Int.toNat (rtI l k)) default).kids.length - (j + 1) < (l.getD (Int.toNat (rtI l k)) default).kids.length - j; omega) (We (ow := [(60, ownOf inCell 1 0 (acc ++ [k] ++ ((l.getD (Int.toNat (rtI l k)) default).kids.take ((j + 1))).flatMap (preN (shownL l) n)) 3), (1000, Own.box 1 (fun _ => SV.own 60) 33), (1002, Own.box 1 (fun zt => SV.renm (mvN 1 60) ((fun _ => fnL 101 [SV.bp 1000 0, elB [ndRow l] 0, SV.bp 1002 0, elB [mapSV (bmap (gvM l l.length))] 0]) zt)) 112)]) (Vs rfl) (by exact ⟨⟨_, rfl, rfl⟩, ⟨_, rfl, rfl, rfl, (An rfl)⟩, ⟨_, rfl, rfl, rfl, ⟨Z, (by first | rfl | (simp only [renm_fnL]; rfl))⟩⟩, Z⟩))
   ·have hc2s := hc2; try simp only [BL] at hc2s
    exact Ex <| c_mv 60 0 rfl rfl <| c_ownE 0 (acc ++ preN (shownL l) (n + 1) k) rfl (by rw [doc_r hc hk hq, List.take_of_length_le (by omega), List.append_assoc]; rfl) <| Rx <| retM0 rfl (by exact ⟨⟨_, rfl, ⟨rfl, rfl, (An rfl)⟩⟩, ⟨_, rfl, rfl⟩, ⟨_, rfl, ⟨rfl, rfl, ⟨Z, (by first | rfl | (simp only [renm_fnL]; rfl))⟩⟩⟩, Z⟩) (by show sv0 = sv0; rfl)
 ·have hc1s := hc1; try simp only [BL] at hc1s
  have hq : ¬ 0 ≤ rtI l k := by omega
  refine Sk <| Sq <| Sq <| Rq <| O (Ld (V rfl) Ga49 (by show 0 < 1; decide)) <| O (Mv (V rfl)) <| O (q_lookB1R (l := (gvM l l.length)) Un49 Un3 (fun w => Try.zeroValue4 w) (V rfl) (V rfl)) <| Nq <| Cd (V rfl) (fun hc3 => ?_) (fun hc3 => ?_)
  ·have hc3s := hc3; try simp only [BL] at hc3s
   have hdg := doc_at hc hk hc3
   have hkf := kids_few hc (i := Int.toNat ((l.getD (Int.toNat ((rootsL l k).getD 0 0)) default).host)) (by omega)
   rw [doc_g hc hk hq hc3, List.length_cons] at hr
   have hr : acc.length + ((((l.getD (Int.toNat ((l.getD (Int.toNat ((rootsL l k).getD 0 0)) default).host)) default).kids).filter (givF l k)).flatMap (preN (shownL l) n)).length + 1 ≤ 1000 := by rw [Nat.add_assoc]; exact hr
   refine Sq <| Rt <| U (LdA (V rfl) Ga24 Sz24 (by show 0 + 1 ≤ 1; decide)) <| U (Mv (V rfl)) <| CT en86 (by exact ⟨⟨(Vi (g' := stG l) (V rfl) ⟨Z, Ir⟩), rfl⟩, ⟨(V rfl), rfl⟩, Z⟩) (roots_ct l k (by first | assumption | omega) (by assumption)) <| U (As (V rfl)) <| Nt <| Sq <| Sq <| Rqd (by kernel_rfl) (by kernel_rfl) <| O (Fl _ _ (V rfl) Un24 rfl 0 Sz22) <| O (Ld (V rfl) Ga22 (by show 0 < 1; decide)) <| O (Fl _ _ (V rfl) Un24 rfl 0 Sz22) <| O (Ld (V rfl) Ga22 (by show 0 < 1; decide)) <| O (Mv (V rfl)) <| O (Ix (V rfl) K ts33 te33 (by first | omega | exact hdg.2.1.1 | exact hdg.2.2.1) (by first | omega | exact hdg.1 | exact hdg.2.1.2 | exact hdg.2.2.2)) <| O (Ld (V rfl) Ga3 (by decide)) <| O (Ix (V rfl) (V rfl) ts22 te22 (by first | omega | exact hdg.2.1.1 | exact hdg.2.2.1) (by first | omega | exact hdg.1 | exact hdg.2.1.2 | exact hdg.2.2.2)) <| O (Fl _ _ (V rfl) Un61 rfl 0 Sz3) <| O (Ld (V rfl) Ga3 (by decide)) <| O (Ix (V rfl) (V rfl) ts22 te22 (by first | omega | exact hdg.2.1.1 | exact hdg.2.2.1) (by first | omega | exact hdg.1 | exact hdg.2.1.2 | exact hdg.2.2.2)) <| O (Fl _ _ (V rfl) Un61 rfl 0 Sz33) <| O (Ld (V rfl) Ga33 (by decide)) <| O (Ln (V rfl) ts33) <| O (Mv K) <| Nq <| Bo <| c_mv 1 60 rfl rfl <| c_ownE 60 (acc ++ [k] ++ ((((l.getD (Int.toNat ((l.getD (Int.toNat ((rootsL l k).getD 0 0)) default).host)) default).kids).take 0).filter (givF l k)).flatMap (preN (shownL l) n)) rfl (by simp) <| Lo (fun (j : Nat) => ⟨[(0, iv (k)), (2, elB [ndRow l] 0), (3, SV.bp 1002 0), (56, inRow ((l.getD (Int.toNat ((l.getD (Int.toNat (((rootsL l k).getD 0 0))) default).host)) default).kids)), (57, iv ((((l.getD (Int.toNat ((l.getD (Int.toNat (((rootsL l k).getD 0 0))) default).host)) default).kids).length : Int))), (58, iv ((j : Int)))], [(60, ownOf inCell 1 0 (acc ++ [k] ++ ((((l.getD (Int.toNat ((l.getD (Int.toNat ((rootsL l k).getD 0 0)) default).host)) default).kids).take j).filter (givF l k)).flatMap (preN (shownL l) n)) 3), (1000, Own.box 1 (fun _ => SV.own 60) 33), (1002, Own.box 1 (fun zt => SV.renm (mvN 1 60) ((fun _ => fnL 101 [SV.bp 1000 0, elB [ndRow l] 0, SV.bp 1002 0, elB [mapSV (bmap (gvM l l.length))] 0]) zt)) 112)]⟩) (fun (j : Nat) => j ≤ ((l.getD (Int.toNat ((l.getD (Int.toNat ((rootsL l k).getD 0 0)) default).host)) default).kids).length) (fun (j : Nat) => ((l.getD (Int.toNat ((l.getD (Int.toNat ((rootsL l k).getD 0 0)) default).host)) default).kids).length - j) 0 (by show 0 ≤ ((l.getD (Int.toNat ((l.getD (Int.toNat ((rootsL l k).getD 0 0)) default).host)) default).kids).length; exact Nat.zero_le _) (We (ow := [(60, ownOf inCell 1 0 (acc ++ [k] ++ ((((l.getD (Int.toNat ((l.getD (Int.toNat ((rootsL l k).getD 0 0)) default).host)) default).kids).take 0).filter (givF l k)).flatMap (preN (shownL l) n)) 3), (1000, Own.box 1 (fun _ => SV.own 60) 33), (1002, Own.box 1 (fun zt => SV.renm (mvN 1 60) ((fun _ => fnL 101 [SV.bp 1000 0, elB [ndRow l] 0, SV.bp 1002 0, elB [mapSV (bmap (gvM l l.length))] 0]) zt)) 112)]) (Vs rfl) (by exact ⟨⟨_, rfl, rfl⟩, ⟨_, rfl, rfl, rfl, (An rfl)⟩, ⟨_, rfl, rfl, rfl, ⟨Z, (by first | rfl | (simp only [renm_fnL]; rfl))⟩⟩, Z⟩)) <| ?_
   ·rintro j hI2
    have hJ2 : j ≤ ((l.getD (Int.toNat ((l.getD (Int.toNat ((rootsL l k).getD 0 0)) default).host)) default).kids).length := hI2
    have hjl := hJ2
    refine Sq <| Rq <| O (Lt (V rfl) (V rfl)) <| Nq <| Sq <| Cd (V rfl) (fun hc4 => ?_) (fun hc4 => ?_)
    ·have hc4s := hc4; try simp only [BL] at hc4s
     have hjk : j < ((l.getD (Int.toNat ((l.getD (Int.toNat ((rootsL l k).getD 0 0)) default).host)) default).kids).length := by omega
     have hkj := kidm_in hc hdg.2.2 hjk
     refine Sk <| Sq <| Bo <| Sq <| Rq <| O (IxN (i := j) (V rfl) (V rfl) ts33 te33 (by first | omega | exact hdg.1 | exact hdg.2.1.2 | exact hdg.2.2.2)) <| O (Ld (V rfl) Ga3 (by decide)) <| O (As (V rfl)) <| Nq <| Sq <| Rq <| O (LdA (V rfl) Ga24 Sz24 (by show 0 + 1 ≤ 1; decide)) <| O (Mv (V rfl)) <| CQ en27 (by exact ⟨⟨(Vi (g' := stG l) (V rfl) ⟨Z, Ir⟩), rfl⟩, ⟨(V rfl), rfl⟩, Z⟩) (givenTo_ct l ((((l.getD (Int.toNat ((l.getD (Int.toNat (((rootsL l k).getD 0 0))) default).host)) default).kids).getD j 0)) (by assumption) (by first | assumption | omega) (by first | assumption | exact kb_nil | exact kb_of (by assumption) | exact kb_of fam_c5)) <| O (Mv (V rfl)) <| O (Ql (V rfl) (V rfl)) <| Nq <| Cd (V rfl) (fun hc5 => ?_) (fun hc5 => ?_)
     ·have hc5s := hc5; try simp only [BL] at hc5s
      have hc6 : givF l k (((l.getD (Int.toNat ((l.getD (Int.toNat ((rootsL l k).getD 0 0)) default).host)) default).kids).getD j 0) = true := hc5
      have hcm : ((l.getD (Int.toNat ((l.getD (Int.toNat ((rootsL l k).getD 0 0)) default).host)) default).kids).getD j 0 ∈ shownL l k := by rw [← doc_eq hc hk, doc_gl hq hc3]; exact List.mem_filter.2 ⟨mem_getD hjk, hc5⟩
      have hsm := sh_mem hc hk hcm
      have hfr := flat_filt_le (f := preN (shownL l) n) (p := givF l k) ((l.getD (Int.toNat ((l.getD (Int.toNat ((rootsL l k).getD 0 0)) default).host)) default).kids) (j + 1)
      rw [← filt_1 (p := givF l k) hjk hc6, List.flatMap_append, List.length_append, List.flatMap_cons, List.flatMap_nil, List.append_nil] at hfr
      refine Rt <| U (LdB (V rfl) rfl Ga112 (by decide)) <| U (Mv (V rfl)) <| CMv (cargs := [iv ((((l.getD (Int.toNat ((l.getD (Int.toNat (((rootsL l k).getD 0 0))) default).host)) default).kids).getD j 0))]) (caps := [SV.bp 1000 0, elB [ndRow l] 0, SV.bp 1002 0, elB [mapSV (bmap (gvM l l.length))] 0]) [(1000, 1000), (1001, 60), (1002, 1002)] [(0, 3)] (fnval_L (VF [SV.bp 1000 0, elB [ndRow l] 0, SV.bp 1002 0, elB [mapSV (bmap (gvM l l.length))] 0] ((V rfl)) (An rfl))) en101 (by exact ⟨(V rfl), Z⟩) (ih ((((l.getD (Int.toNat ((l.getD (Int.toNat (((rootsL l k).getD 0 0))) default).host)) default).kids).getD j 0)) (acc ++ [k] ++ ((((l.getD (Int.toNat ((l.getD (Int.toNat ((rootsL l k).getD 0 0)) default).host)) default).kids).take j).filter (givF l k)).flatMap (preN (shownL l) n)) hsm.1 (by omega) (by first | omega | (simp only [List.length_append, List.length_cons, List.length_nil]; omega))) (by exact ⟨⟨_, rfl, ⟨rfl, rfl, (An rfl)⟩⟩, ⟨_, rfl, rfl⟩, ⟨_, rfl, ⟨rfl, rfl, ⟨Z, (by first | rfl | (simp only [renm_fnL]; rfl))⟩⟩⟩, Z⟩) rfl rfl rfl rfl <| Nt <| Rq <| O (Ad (V rfl) K (by omega)) <| O (Mv (V rfl)) <| Nq <| k_mv 3 60 rfl rfl <| k_ownE 60 (acc ++ [k] ++ ((((l.getD (Int.toNat ((l.getD (Int.toNat ((rootsL l k).getD 0 0)) default).host)) default).kids).take ((j + 1))).filter (givF l k)).flatMap (preN (shownL l) n)) rfl (by rw [← filt_1 (p := givF l k) (by omega) hc6, List.flatMap_append]; simp only [List.append_assoc, List.flatMap_cons, List.flatMap_nil, List.append_nil]) <| Nx (j + 1) (by show (j + 1) ≤ ((l.getD (Int.toNat ((l.getD (Int.toNat ((rootsL l k).getD 0 0)) default).host)) default).kids).length; first | omega | (simp; done) | (refine ⟨?_, ?_⟩ <;> first | omega | (simp; done))) (by show ((l.getD (Int.toNat ((l.getD (Int.toNat ((rootsL l k).getD 0 0)) default).host)) default).kids).length - (j + 1) < ((l.getD (Int.toNat ((l.getD (Int.toNat ((rootsL l k).getD 0 0)) default).host)) default).kids).length - j; omega) (We (ow := [(60, ownOf inCell 1 0 (acc ++ [k] ++ ((((l.getD (Int.toNat ((l.getD (Int.toNat ((rootsL l k).getD 0 0)) default).host)) default).kids).take ((j + 1))).filter (givF l k)).flatMap (preN (shownL l) n)) 3), (1000, Own.box 1 (fun _ => SV.own 60) 33), (1002, Own.box 1 (fun zt => SV.renm (mvN 1 60) ((fun _ => fnL 101 [SV.bp 1000 0, elB [ndRow l] 0, SV.bp 1002 0, elB [mapSV (bmap (gvM l l.length))] 0]) zt)) 112)]) (Vs rfl) (by exact ⟨⟨_, rfl, rfl⟩, ⟨_, rfl, rfl, rfl, (An rfl)⟩, ⟨_, rfl, rfl, rfl, ⟨Z, (by first | rfl | (simp only [renm_fnL]; rfl))⟩⟩, Z⟩))
     ·have hc5s := hc5; try simp only [BL] at hc5s
      have hc6 : givF l k (((l.getD (Int.toNat ((l.getD (Int.toNat ((rootsL l k).getD 0 0)) default).host)) default).kids).getD j 0) = false := hc5
      refine Sk <| Rq <| O (Ad (V rfl) K (by omega)) <| O (Mv (V rfl)) <| Nq <| k_ownE 60 (acc ++ [k] ++ ((((l.getD (Int.toNat ((l.getD (Int.toNat ((rootsL l k).getD 0 0)) default).host)) default).kids).take ((j + 1))).filter (givF l k)).flatMap (preN (shownL l) n)) rfl (by rw [← filt_2 (p := givF l k) (by omega) hc6]) <| Nx (j + 1) (by show (j + 1) ≤ ((l.getD (Int.toNat ((l.getD (Int.toNat ((rootsL l k).getD 0 0)) default).host)) default).kids).length; first | omega | (simp; done) | (refine ⟨?_, ?_⟩ <;> first | omega | (simp; done))) (by show ((l.getD (Int.toNat ((l.getD (Int.toNat ((rootsL l k).getD 0 0)) default).host)) default).kids).length - (j + 1) < ((l.getD (Int.toNat ((l.getD (Int.toNat ((rootsL l k).getD 0 0)) default).host)) default).kids).length - j; omega) (We (ow := [(60, ownOf inCell 1 0 (acc ++ [k] ++ ((((l.getD (Int.toNat ((l.getD (Int.toNat ((rootsL l k).getD 0 0)) default).host)) default).kids).take ((j + 1))).filter (givF l k)).flatMap (preN (shownL l) n)) 3), (1000, Own.box 1 (fun _ => SV.own 60) 33), (1002, Own.box 1 (fun zt => SV.renm (mvN 1 60) ((fun _ => fnL 101 [SV.bp 1000 0, elB [ndRow l] 0, SV.bp 1002 0, elB [mapSV (bmap (gvM l l.length))] 0]) zt)) 112)]) (Vs rfl) (by exact ⟨⟨_, rfl, rfl⟩, ⟨_, rfl, rfl, rfl, (An rfl)⟩, ⟨_, rfl, rfl, rfl, ⟨Z, (by first | rfl | (simp only [renm_fnL]; rfl))⟩⟩, Z⟩))
    ·have hc4s := hc4; try simp only [BL] at hc4s
     exact Ex <| c_mv 60 0 rfl rfl <| c_ownE 0 (acc ++ preN (shownL l) (n + 1) k) rfl (by rw [doc_g hc hk hq hc3, List.take_of_length_le (by omega), List.append_assoc]; rfl) <| Rx <| retM0 rfl (by exact ⟨⟨_, rfl, ⟨rfl, rfl, (An rfl)⟩⟩, ⟨_, rfl, rfl⟩, ⟨_, rfl, ⟨rfl, rfl, ⟨Z, (by first | rfl | (simp only [renm_fnL]; rfl))⟩⟩⟩, Z⟩) (by show sv0 = sv0; rfl)
  ·have hc3s := hc3; try simp only [BL] at hc3s
   have hkf := kids_few hc (i := Int.toNat k) (by omega)
   rw [doc_k hc hk hq hc3, List.length_cons] at hr
   refine Sk <| Sq <| Rq <| O (Fl _ _ (V rfl) Un24 rfl 0 Sz22) <| O (Ld (V rfl) Ga22 (by show 0 < 1; decide)) <| O (Mv (V rfl)) <| O (Ix (V rfl) (V rfl) ts22 te22 (by first | omega | exact hdg.2.1.1 | exact hdg.2.2.1) (by first | omega | exact hdg.1 | exact hdg.2.1.2 | exact hdg.2.2.2)) <| O (Fl _ _ (V rfl) Un61 rfl 0 Sz33) <| O (Ld (V rfl) Ga33 (by decide)) <| O (Ln (V rfl) ts33) <| O (Mv K) <| Nq <| Bo <| c_mv 1 60 rfl rfl <| c_ownE 60 (acc ++ [k] ++ ((l.getD (Int.toNat k) default).kids.take 0).flatMap (preN (shownL l) n)) rfl (by simp) <| Lo (fun (j : Nat) => ⟨[(3, SV.bp 1002 0), (76, inRow ((l.getD (Int.toNat k) default).kids)), (77, iv ((((l.getD (Int.toNat k) default).kids).length : Int))), (78, iv ((j : Int)))], [(60, ownOf inCell 1 0 (acc ++ [k] ++ ((l.getD (Int.toNat k) default).kids.take j).flatMap (preN (shownL l) n)) 3), (1000, Own.box 1 (fun _ => SV.own 60) 33), (1002, Own.box 1 (fun zt => SV.renm (mvN 1 60) ((fun _ => fnL 101 [SV.bp 1000 0, elB [ndRow l] 0, SV.bp 1002 0, elB [mapSV (bmap (gvM l l.length))] 0]) zt)) 112)]⟩) (fun (j : Nat) => j ≤ (l.getD (Int.toNat k) default).kids.length) (fun (j : Nat) => (l.getD (Int.toNat k) default).kids.length - j) 0 (by show 0 ≤ (l.getD (Int.toNat k) default).kids.length; exact Nat.zero_le _) (We (ow := [(60, ownOf inCell 1 0 (acc ++ [k] ++ ((l.getD (Int.toNat k) default).kids.take 0).flatMap (preN (shownL l) n)) 3), (1000, Own.box 1 (fun _ => SV.own 60) 33), (1002, Own.box 1 (fun zt => SV.renm (mvN 1 60) ((fun _ => fnL 101 [SV.bp 1000 0, elB [ndRow l] 0, SV.bp 1002 0, elB [mapSV (bmap (gvM l l.length))] 0]) zt)) 112)]) (Vs rfl) (by exact ⟨⟨_, rfl, rfl⟩, ⟨_, rfl, rfl, rfl, (An rfl)⟩, ⟨_, rfl, rfl, rfl, ⟨Z, (by first | rfl | (simp only [renm_fnL]; rfl))⟩⟩, Z⟩)) <| ?_
   ·rintro j hI3
    have hJ3 : j ≤ (l.getD (Int.toNat k) default).kids.length := hI3
    have hjl := hJ3
    refine Sq <| Rq <| O (Lt (V rfl) (V rfl)) <| Nq <| Sq <| Cd (V rfl) (fun hc6 => ?_) (fun hc6 => ?_)
    ·have hc6s := hc6; try simp only [BL] at hc6s
     have hjk : j < (l.getD (Int.toNat k) default).kids.length := by omega
     have hcm : (l.getD (Int.toNat k) default).kids.getD j 0 ∈ shownL l k := by rw [shown_d hc hk hq hc3]; exact mem_getD hjk
     have hsm := sh_mem hc hk hcm
     have hfr := flat_take_le (f := preN (shownL l) n) (l.getD (Int.toNat k) default).kids (j + 1)
     rw [flat_take_1 hjk, List.length_append] at hfr
     refine Sk <| Sq <| Bo <| Sq <| Rq <| O (IxN (i := j) (V rfl) (V rfl) ts33 te33 (by first | omega | exact hdg.1 | exact hdg.2.1.2 | exact hdg.2.2.2)) <| O (Ld (V rfl) Ga3 (by decide)) <| O (As (V rfl)) <| Nq <| Rt <| U (LdB (V rfl) rfl Ga112 (by decide)) <| U (Mv (V rfl)) <| CMv (cargs := [iv ((((l.getD (Int.toNat k) default).kids).getD j 0))]) (caps := [SV.bp 1000 0, elB [ndRow l] 0, SV.bp 1002 0, elB [mapSV (bmap (gvM l l.length))] 0]) [(1000, 1000), (1001, 60), (1002, 1002)] [(0, 4)] (fnval_L (VF [SV.bp 1000 0, elB [ndRow l] 0, SV.bp 1002 0, elB [mapSV (bmap (gvM l l.length))] 0] ((V rfl)) (An rfl))) en101 (by exact ⟨(V rfl), Z⟩) (ih ((((l.getD (Int.toNat k) default).kids).getD j 0)) (acc ++ [k] ++ ((l.getD (Int.toNat k) default).kids.take j).flatMap (preN (shownL l) n)) hsm.1 (by omega) (by first | omega | (simp only [List.length_append, List.length_cons, List.length_nil]; omega))) (by exact ⟨⟨_, rfl, ⟨rfl, rfl, (An rfl)⟩⟩, ⟨_, rfl, rfl⟩, ⟨_, rfl, ⟨rfl, rfl, ⟨Z, (by first | rfl | (simp only [renm_fnL]; rfl))⟩⟩⟩, Z⟩) rfl rfl rfl rfl <| Nt <| Rq <| O (Ad (V rfl) K (by omega)) <| O (Mv (V rfl)) <| Nq <| k_mv 4 60 rfl rfl <| k_ownE 60 (acc ++ [k] ++ ((l.getD (Int.toNat k) default).kids.take ((j + 1))).flatMap (preN (shownL l) n)) rfl (by rw [flat_take_1 (by omega)]; simp only [List.append_assoc]) <| Nx (j + 1) (by show (j + 1) ≤ (l.getD (Int.toNat k) default).kids.length; first | omega | (simp; done) | (refine ⟨?_, ?_⟩ <;> first | omega | (simp; done))) (by show (l.getD (Int.toNat k) default).kids.length - (j + 1) < (l.getD (Int.toNat k) default).kids.length - j; omega) (We (ow := [(60, ownOf inCell 1 0 (acc ++ [k] ++ ((l.getD (Int.toNat k) default).kids.take ((j + 1))).flatMap (preN (shownL l) n)) 3), (1000, Own.box 1 (fun _ => SV.own 60) 33), (1002, Own.box 1 (fun zt => SV.renm (mvN 1 60) ((fun _ => fnL 101 [SV.bp 1000 0, elB [ndRow l] 0, SV.bp 1002 0, elB [mapSV (bmap (gvM l l.length))] 0]) zt)) 112)]) (Vs rfl) (by exact ⟨⟨_, rfl, rfl⟩, ⟨_, rfl, rfl, rfl, (An rfl)⟩, ⟨_, rfl, rfl, rfl, ⟨Z, (by first | rfl | (simp only [renm_fnL]; rfl))⟩⟩, Z⟩))
    ·have hc6s := hc6; try simp only [BL] at hc6s
     exact Ex <| k_mv 60 0 rfl rfl <| k_ownE 0 (acc ++ preN (shownL l) (n + 1) k) rfl (by rw [doc_k hc hk hq hc3, List.take_of_length_le (by omega), List.append_assoc]; rfl) <| endM0 rfl (by exact ⟨⟨_, rfl, ⟨rfl, rfl, (An rfl)⟩⟩, ⟨_, rfl, rfl⟩, ⟨_, rfl, ⟨rfl, rfl, ⟨Z, (by first | rfl | (simp only [renm_fnL]; rfl))⟩⟩⟩, Z⟩) rfl
theorem flatW_ct (l : List Nd) (hc : checkSt l = 0) (hb : ∀ n ∈ l, n.kids.length ≤ 17592186043904) : ∀ n, FltCt l n
  | 0 => fun k acc hk hn _ => by have := rk_lid hc k hk; omega
  | n + 1 => fun k acc hk hn hr => flatK_ct l n hc (flatW_ct l hc hb n) k acc hk hn hr hb
theorem flatOf_ct (l : List Nd) (h : Hd) (hb : ∀ n ∈ l, n.kids.length ≤ 17592186043904) : Ct Try.prog 24 [SV.agg 1 (stG l), SV.agg 2 (hdCell h)] (sv2 (inRow (flatSt l h).1) (iv (flatSt l h).2)) := by
 refine CtO 41 Try.func24 rfl rfl rfl fun E => row_lenA 0 (V (s := 0) rfl) rfl rfl fun hl0_0 => Sq <| Rt <| BxA 1 (V rfl) rfl rfl <| BxA 2 (V rfl) rfl rfl <| U (As (Vn (k := 1) (get := rowG inCell 0 []))) <| U (As K) <| Nt <| Sq <| Sq <| Rt <| U (LBA (V rfl) rfl Ga24 Sz24 (by decide)) <| U (LBA (V rfl) rfl Ga26 Sz26 (by decide)) <| Uw (w_bs (n := 1) (zget := cmpG [iv (0), iv (0)]) [(fun zi => (hdCell h) (0 + zi))] (rowG hdCell default [h]) Un80 Sz26 zero26 (by decide) rfl (by decide) ⟨⟨rfl, .inl (V rfl), rfl⟩, Z⟩ ⟨Z, ⟨⟨Z, rfl⟩, rfl⟩⟩) <| CT en100 (by exact ⟨⟨(Vi (g' := stG l) (V rfl) ⟨Z, Ir⟩), rfl⟩, ⟨(V rfl), rfl⟩, Z⟩) (first_ct l ([h]) (by first | assumption | exact kb_nil | exact kb_of (by assumption) | exact kb_of fam_c5)) <| U (As (V rfl)) <| Nt <| Sq <| Rq <| O (Mv (V rfl)) <| O (Qn (V rfl) K) <| Nq <| Cd (V rfl) (fun hc1 => ?_) (fun hc1 => ?_)
 ·have hc1s := hc1; try simp only [BL] at hc1s
  exact Sq <| Rq <| O (Mv (V rfl)) <| O (As (Vn (k := 1) (get := rowG inCell 0 []))) <| O (As (V rfl)) <| Nq <| Rx <| R2 rfl (V rfl) (V rfl) rfl rfl (by show sv2 (inRow ([])) (iv (firstSt l ([h]))) = sv2 (inRow (flatSt l h).1) (iv (flatSt l h).2); rw [flat_1 hc1s])
 ·have hc1s := hc1; try simp only [BL] at hc1s
  obtain ⟨hc0, _, hpl, _⟩ := first1 hc1s
  have h24 := checkSt_len hc0
  refine Sk <| Sq <| Rt <| t_makeMap 3 rfl <| Al 4 zero49 rfl rfl <| t_st1V (V rfl) rfl (V rfl) (one_map rfl) Sz49 (by decide) <| Nt <| Sq <| Sq <| Rq <| O (FlB _ _ (V rfl) Un24 rfl 0 Sz22) <| O (LdB (V rfl) rfl Ga22 (by decide)) <| O (Ln (V rfl) ts22) <| O (Mv K) <| Nq <| Bo <| c_mv 3 61 rfl rfl <| c_mapE 61 (bmap (gvM l 0)) rfl (by rfl) <| Lo (fun (i : Nat) => ⟨[(2, SV.bp 1 0), (3, SV.bp 2 0), (7, SV.bp 4 0), (21, ndRow l), (22, iv ((l.length : Int))), (23, iv ((i : Int)))], [(1, Own.box 1 (fun zt => SV.renm (mvN 3 61) ((stG l) zt)) 24), (2, Own.box 2 (fun zt => SV.renm (mvN 3 61) ((hdCell h) zt)) 26), (4, Own.box 1 (fun _ => SV.own 61) 49), (61, Own.amap (bmap (gvM l i)))]⟩) (fun (i : Nat) => i ≤ l.length) (fun (i : Nat) => l.length - i) 0 (by show 0 ≤ l.length; exact Nat.zero_le _) (We (ow := [(1, Own.box 1 (fun zt => SV.renm (mvN 3 61) ((stG l) zt)) 24), (2, Own.box 2 (fun zt => SV.renm (mvN 3 61) ((hdCell h) zt)) 26), (4, Own.box 1 (fun _ => SV.own 61) 49), (61, Own.amap (bmap (gvM l 0)))]) (Vs rfl) (by exact ⟨⟨_, rfl, rfl, rfl, (An rfl)⟩, ⟨_, rfl, rfl, rfl, (An rfl)⟩, ⟨_, rfl, rfl, rfl, (An rfl)⟩, ⟨_, rfl, rfl⟩, Z⟩)) <| ?_
  ·rintro i hI1
   have hJ1 : i ≤ l.length := hI1
   have hil := hJ1
   refine Sq <| Rq <| O (Lt (V rfl) (V rfl)) <| Nq <| Sq <| Cd (V rfl) (fun hc2 => ?_) (fun hc2 => ?_)
   ·have hc2s := hc2; try simp only [BL] at hc2s
    refine Sk <| Sq <| Bo <| Sq <| Rt <| U (Mv (V rfl)) <| U (IxN (i := i) (V rfl) (V rfl) ts22 te22 (by omega)) <| U (LdA (V rfl) Ga61 Sz61 (by decide)) <| Al 5 zero61 rfl rfl <| U (As (V rfl)) <| StA (V rfl) rfl (V rfl) Sz61 <| Nt <| Sq <| Rq <| O (FlB _ _ (V rfl) Un61 rfl 0 Sz4) <| O (LdB (V rfl) rfl Ga4 (by decide)) <| Nq <| Cd (V rfl) (fun hc3 => ?_) (fun hc3 => ?_)
    ·have hc3s := hc3; try simp only [BL] at hc3s
     refine c_rd (fun e => ⟨[(30, cj (e 0) (SV.own 61)), (31, cj (e 1) (SV.agg 1 (fun zi => (fun zt => SV.renm (mvN 3 61) ((stG l) zt)) (0 + zi)))), (32, cj (e 2) (iv ((i : Int)))), (33, cj (e 3) (iv (givenI l ((i : Int))))), (2, SV.bp 1 0), (3, SV.bp 2 0), (7, SV.bp 4 0), (8, iv ((i : Int))), (21, ndRow l), (22, iv ((l.length : Int))), (23, iv ((i : Int)))], (cb (e 4) [(1, Own.box 1 (fun zt => SV.renm (mvN 3 61) ((stG l) zt)) 24), (2, Own.box 2 (fun zt => SV.renm (mvN 3 61) ((hdCell h) zt)) 26), (4, Own.box 1 (fun _ => SV.own 61) 49), (61, Own.amap (bmap (kput (gvM l i) (givenI l ((i : Int))) true)))] [(1, Own.box 1 (fun zt => SV.renm (mvN 3 61) ((stG l) zt)) 24), (2, Own.box 2 (fun zt => SV.renm (mvN 3 61) ((hdCell h) zt)) 26), (4, Own.box 1 (fun _ => SV.own 61) 49), (61, Own.amap (bmap (gvM l i)))])⟩) ⟨[(30, SV.own 61), (31, SV.agg 1 (fun zi => (fun zt => SV.renm (mvN 3 61) ((stG l) zt)) (0 + zi))), (32, iv ((i : Int))), (33, iv (givenI l ((i : Int)))), (2, SV.bp 1 0), (3, SV.bp 2 0), (7, SV.bp 4 0), (8, iv ((i : Int))), (21, ndRow l), (22, iv ((l.length : Int))), (23, iv ((i : Int)))], [(1, Own.box 1 (fun zt => SV.renm (mvN 3 61) ((stG l) zt)) 24), (2, Own.box 2 (fun zt => SV.renm (mvN 3 61) ((hdCell h) zt)) 26), (4, Own.box 1 (fun _ => SV.own 61) 49), (61, Own.amap (bmap (kput (gvM l i) (givenI l ((i : Int))) true)))]⟩ (by kernel_rfl) (by kernel_rfl) ?_ ⟨?_, ?_, ?_, ?_, ?_, Z⟩ ?_ ?_
     ·show Weak _ _ ⟨[(30, SV.junk), (31, SV.junk), (32, SV.junk), (33, SV.junk), (2, SV.bp 1 0), (3, SV.bp 2 0), (7, SV.bp 4 0), (8, iv ((i : Int))), (21, ndRow l), (22, iv ((l.length : Int))), (23, iv ((i : Int)))], [(1, Own.box 1 (fun zt => SV.renm (mvN 3 61) ((stG l) zt)) 24), (2, Own.box 2 (fun zt => SV.renm (mvN 3 61) ((hdCell h) zt)) 26), (4, Own.box 1 (fun _ => SV.own 61) 49), (61, Own.amap (bmap (gvM l i)))]⟩
      refine We ?_ ?_
      ·exact ⟨Vj, Vj, Vj, Vj, V rfl, V rfl, V rfl, V rfl, V rfl, V rfl, V rfl, Z⟩
      ·exact ⟨⟨_, rfl, ⟨rfl, rfl, (An rfl)⟩⟩, ⟨_, rfl, ⟨rfl, rfl, (An rfl)⟩⟩, ⟨_, rfl, ⟨rfl, rfl, (An rfl)⟩⟩, ⟨_, rfl, rfl⟩, Z⟩
     ·intro e hdn he hdp
      obtain ⟨h4, -⟩ := dns1 hdn he [4] (by kernel_rfl)
      simp only [setE, he, h4, cj_t, cj_f, cjn_t, cjn_f, cb_t, cb_f]
      refine U (LdB (V rfl) rfl Ga49 (by decide)) <| Nt <| We ?_ ?_
      ·exact (Vs rfl)
      ·exact ⟨⟨_, rfl, ⟨rfl, rfl, (An rfl)⟩⟩, ⟨_, rfl, ⟨rfl, rfl, (An rfl)⟩⟩, ⟨_, rfl, ⟨rfl, rfl, (An rfl)⟩⟩, ⟨_, rfl, rfl⟩, Z⟩
     ·intro e hdn he hdp
      obtain ⟨-, h4, -⟩ := dns1 hdn he [3, 4] (by kernel_rfl)
      simp only [setE, he, h4, cj_t, cj_f, cjn_t, cjn_f, cb_t, cb_f]
      refine U (LBA (V rfl) rfl Ga24 Sz24 (by decide)) <| Nt <| We ?_ ?_
      ·exact (Vs rfl)
      ·exact ⟨⟨_, rfl, ⟨rfl, rfl, (An rfl)⟩⟩, ⟨_, rfl, ⟨rfl, rfl, (An rfl)⟩⟩, ⟨_, rfl, ⟨rfl, rfl, (An rfl)⟩⟩, ⟨_, rfl, rfl⟩, Z⟩
     ·intro e hdn he hdp
      obtain ⟨-, h4, -⟩ := dns1 hdn he [3, 4] (by kernel_rfl)
      simp only [setE, he, h4, cj_t, cj_f, cjn_t, cjn_f, cb_t, cb_f]
      refine U (Mv (V rfl)) <| Nt <| We ?_ ?_
      ·exact (Vs rfl)
      ·exact ⟨⟨_, rfl, ⟨rfl, rfl, (An rfl)⟩⟩, ⟨_, rfl, ⟨rfl, rfl, (An rfl)⟩⟩, ⟨_, rfl, ⟨rfl, rfl, (An rfl)⟩⟩, ⟨_, rfl, rfl⟩, Z⟩
     ·intro e hdn he hdp
      obtain ⟨h2, h1, -⟩ := ups hdn [2, 1] hdp (by kernel_rfl)
      obtain ⟨h4, -⟩ := dns1 hdn he [4] (by kernel_rfl)
      simp only [setE, h1, h2, he, h4, cj_t, cj_f, cjn_t, cjn_f, cb_t, cb_f]
      refine CT en27 (by exact ⟨⟨(Vi (g' := stG l) (V rfl) ⟨Z, Ir⟩), rfl⟩, ⟨(V rfl), rfl⟩, Z⟩) (givenTo_ct l ((i : Int)) (by assumption) (by first | assumption | omega) (by first | assumption | exact kb_nil | exact kb_of (by assumption) | exact kb_of fam_c5)) <| Nt <| We ?_ ?_
      ·exact (Vs rfl)
      ·exact ⟨⟨_, rfl, ⟨rfl, rfl, (An rfl)⟩⟩, ⟨_, rfl, ⟨rfl, rfl, (An rfl)⟩⟩, ⟨_, rfl, ⟨rfl, rfl, (An rfl)⟩⟩, ⟨_, rfl, rfl⟩, Z⟩
     ·intro e hdn he hdp
      obtain ⟨h3, h2, h1, h0, -⟩ := ups hdn [3, 2, 1, 0] hdp (by kernel_rfl)
      simp only [setE, h0, h1, h2, h3, he, cj_t, cj_f, cjn_t, cjn_f, cb_t, cb_f]
      refine t_putB (l := gvM l i) (.inr rfl) Un49 Un3 (V rfl) rfl (V rfl) K <| Nt <| We ?_ ?_
      ·exact (Vs rfl)
      ·exact ⟨⟨_, rfl, ⟨rfl, rfl, (An rfl)⟩⟩, ⟨_, rfl, ⟨rfl, rfl, (An rfl)⟩⟩, ⟨_, rfl, ⟨rfl, rfl, (An rfl)⟩⟩, ⟨_, rfl, rfl⟩, Z⟩
     ·intro e he
      have h0 := he 0 (by decide)
      have h1 := he 1 (by decide)
      have h2 := he 2 (by decide)
      have h3 := he 3 (by decide)
      have h4 := he 4 (by decide)
      show Weak _ ⟨[(30, cj (e 0) (SV.own 61)), (31, cj (e 1) (SV.agg 1 (fun zi => (fun zt => SV.renm (mvN 3 61) ((stG l) zt)) (0 + zi)))), (32, cj (e 2) (iv ((i : Int)))), (33, cj (e 3) (iv (givenI l ((i : Int))))), (2, SV.bp 1 0), (3, SV.bp 2 0), (7, SV.bp 4 0), (8, iv ((i : Int))), (21, ndRow l), (22, iv ((l.length : Int))), (23, iv ((i : Int)))], (cb (e 4) [(1, Own.box 1 (fun zt => SV.renm (mvN 3 61) ((stG l) zt)) 24), (2, Own.box 2 (fun zt => SV.renm (mvN 3 61) ((hdCell h) zt)) 26), (4, Own.box 1 (fun _ => SV.own 61) 49), (61, Own.amap (bmap (kput (gvM l i) (givenI l ((i : Int))) true)))] [(1, Own.box 1 (fun zt => SV.renm (mvN 3 61) ((stG l) zt)) 24), (2, Own.box 2 (fun zt => SV.renm (mvN 3 61) ((hdCell h) zt)) 26), (4, Own.box 1 (fun _ => SV.own 61) 49), (61, Own.amap (bmap (gvM l i)))])⟩ _
      simp only [h0, h1, h2, h3, h4]
      show Weak _ ⟨[(30, SV.own 61), (31, SV.agg 1 (fun zi => (fun zt => SV.renm (mvN 3 61) ((stG l) zt)) (0 + zi))), (32, iv ((i : Int))), (33, iv (givenI l ((i : Int)))), (2, SV.bp 1 0), (3, SV.bp 2 0), (7, SV.bp 4 0), (8, iv ((i : Int))), (21, ndRow l), (22, iv ((l.length : Int))), (23, iv ((i : Int)))], [(1, Own.box 1 (fun zt => SV.renm (mvN 3 61) ((stG l) zt)) 24), (2, Own.box 2 (fun zt => SV.renm (mvN 3 61) ((hdCell h) zt)) 26), (4, Own.box 1 (fun _ => SV.own 61) 49), (61, Own.amap (bmap (kput (gvM l i) (givenI l ((i : Int))) true)))]⟩ _
      refine We ?_ ?_
      ·exact ⟨V rfl, Va (V rfl) (An rfl), V rfl, V rfl, V rfl, V rfl, V rfl, V rfl, V rfl, V rfl, V rfl, Z⟩
      ·exact ⟨⟨_, rfl, ⟨rfl, rfl, (An rfl)⟩⟩, ⟨_, rfl, ⟨rfl, rfl, (An rfl)⟩⟩, ⟨_, rfl, ⟨rfl, rfl, (An rfl)⟩⟩, ⟨_, rfl, rfl⟩, Z⟩
     refine Rq <| O (Ad (V rfl) K (by omega)) <| O (Mv (V rfl)) <| Nq <| k_mapE 61 (bmap (gvM l ((i + 1)))) rfl (by rw [gvM_t hc3]) <| Nx (i + 1) (by show (i + 1) ≤ l.length; first | omega | (simp; done) | (refine ⟨?_, ?_⟩ <;> first | omega | (simp; done))) (by show l.length - (i + 1) < l.length - i; omega) (We (ow := [(1, Own.box 1 (fun zt => SV.renm (mvN 3 61) ((stG l) zt)) 24), (2, Own.box 2 (fun zt => SV.renm (mvN 3 61) ((hdCell h) zt)) 26), (4, Own.box 1 (fun _ => SV.own 61) 49), (61, Own.amap (bmap (gvM l ((i + 1)))))]) (Vs rfl) (by exact ⟨⟨_, rfl, rfl, rfl, (An rfl)⟩, ⟨_, rfl, rfl, rfl, (An rfl)⟩, ⟨_, rfl, rfl, rfl, (An rfl)⟩, ⟨_, rfl, rfl⟩, Z⟩))
    ·have hc3s := hc3; try simp only [BL] at hc3s
     refine Sk <| Rq <| O (Ad (V rfl) K (by omega)) <| O (Mv (V rfl)) <| Nq <| k_mapE 61 (bmap (gvM l ((i + 1)))) rfl (by rw [gvM_f hc3]) <| Nx (i + 1) (by show (i + 1) ≤ l.length; first | omega | (simp; done) | (refine ⟨?_, ?_⟩ <;> first | omega | (simp; done))) (by show l.length - (i + 1) < l.length - i; omega) (We (ow := [(1, Own.box 1 (fun zt => SV.renm (mvN 3 61) ((stG l) zt)) 24), (2, Own.box 2 (fun zt => SV.renm (mvN 3 61) ((hdCell h) zt)) 26), (4, Own.box 1 (fun _ => SV.own 61) 49), (61, Own.amap (bmap (gvM l ((i + 1)))))]) (Vs rfl) (by exact ⟨⟨_, rfl, rfl, rfl, (An rfl)⟩, ⟨_, rfl, rfl, rfl, (An rfl)⟩, ⟨_, rfl, rfl, rfl, (An rfl)⟩, ⟨_, rfl, rfl⟩, Z⟩))
   ·have hc2s := hc2; try simp only [BL] at hc2s
    have hie : i = l.length := by omega
    exact Ex <| Sq <| c_mapE 61 (bmap (gvM l l.length)) rfl (by rw [hie]) <| Rt <| Al 6 zero33 rfl rfl <| Nt <| Sq <| Rt <| Al 7 zero112 rfl rfl <| Nt <| Sq <| c_frzB 1 [ndRow l] rfl rfl ⟨Z, rfl⟩ rfl <| c_frzM 61 rfl <| c_frzB 4 [mapSV (bmap (gvM l l.length))] rfl rfl ⟨Z, rfl⟩ rfl <| Rt <| U (Mk (caps := [SV.bp 6 0, elB [ndRow l] 0, SV.bp 7 0, elB [mapSV (bmap (gvM l l.length))] 0]) ⟨(V rfl), (V rfl), (V rfl), (V rfl), Z⟩) <| St1 (V rfl) rfl (V rfl) rfl Sz112 (by decide) <| Nt <| Sq <| Rt <| U (LdB (V rfl) rfl Ga112 (by decide)) <| U (FlB _ _ (V rfl) Un26 rfl 0 Sz3) <| U (LdB (V rfl) rfl Ga3 (by decide)) <| Tt (turn_nilB 6 0 8 1 (rowG inCell 0 []) 3 (by exact rfl) (by exact rfl) (by exact rfl)) <| CMv (cargs := [iv (h.pl)]) (caps := [SV.bp 1000 0, elB [ndRow l] 0, SV.bp 1002 0, elB [mapSV (bmap (gvM l l.length))] 0]) [(1000, 6), (1001, 8), (1002, 7)] [(0, 9)] (fnval_L (VF [SV.bp 6 0, elB [ndRow l] 0, SV.bp 7 0, elB [mapSV (bmap (gvM l l.length))] 0] ((V rfl)) (An rfl))) en101 (by exact ⟨(V rfl), Z⟩) (flatW_ct l hc0 hb (3 ^ l.length + 1) h.pl ([]) hpl (by omega) (by have := flat_len2 hc0 hpl; show 0 + (flatP l h.pl).length ≤ 1000; omega)) (by exact ⟨⟨_, rfl, ⟨rfl, rfl, (An rfl)⟩⟩, ⟨_, rfl, rfl⟩, ⟨_, rfl, ⟨rfl, rfl, ⟨Z, (by first | rfl | (simp only [renm_fnL]; rfl))⟩⟩⟩, Z⟩) rfl rfl rfl rfl <| Nt <| Sq <| Rq <| O (LdB (V rfl) rfl Ga33 (by decide)) <| O (As (V rfl)) <| O (As K) <| Nq <| FzC 9 rfl <| Rx <| R2 rfl (V rfl) (V rfl) rfl rfl (by show sv2 (inRow (([]) ++ preN (shownL l) (3 ^ l.length + 1) h.pl)) (iv (0)) = sv2 (inRow (flatSt l h).1) (iv (flatSt l h).2); rw [flat_2 hc1s]; rfl)
end Go.Proofs.Ytmcdamcedemdiaa
namespace Go.Proofs.Ytmcdamcedemdiaa
open Go.RowKit Go.Eng
section
variable {l : List Nd} {h : Hd}
theorem eqInt_rfl (L : List Int) : eqInt L L = true := by unfold eqInt; exact decide_eq_true rfl
theorem says_e (l : List Nd) (h : Hd) : (slotsSt l h).2 = (flatSt l h).2 ∧ (givenSt l h).2 = (flatSt l h).2 ∧ (flatSt l h).2 = firstSt l [h] := by
  by_cases q : firstSt l [h] = 0
  · rw [slots_2 q, given_2 q, flat_2 q, q]; exact ⟨rfl, rfl, rfl⟩
  · rw [slots_1 q, given_1 q, flat_1 q]; exact ⟨rfl, rfl, rfl⟩
theorem says_no : (((((!true) || (!decide ((flatSt l h).2 = (flatSt l h).2))) || (!eqInt (flatSt l h).1 (flatSt l h).1)) || (!decide ((slotsSt l h).2 = (flatSt l h).2))) || (!decide ((givenSt l h).2 = (flatSt l h).2))) = false := by
  obtain ⟨a, b, _⟩ := says_e l h
  rw [a, b, eqInt_rfl, decide_eq_true rfl]; rfl
theorem says_bad (e : ¬ (slotsSt l h).2 = 0) : (decide (((slotsSt l h).1.length : Int) = 0) && decide ((givenSt l h).1 = 0)) = true := by
  have q : ¬ firstSt l [h] = 0 := fun q => by rw [slots_2 q] at e; exact e rfl
  rw [slots_1 q, given_1 q]; rfl
theorem says_ok (e : (slotsSt l h).2 = 0) : firstSt l [h] = 0 ∧ (slotsSt l h).1 = slotsK l h.pl ∧ (givenSt l h).1 = givenI l h.pl := by
  have q : firstSt l [h] = 0 := by
    obtain ⟨a, _, c⟩ := says_e l h
    rw [← c, ← a]; exact e
  rw [slots_2 q, given_2 q]; exact ⟨q, rfl, rfl⟩
theorem sl_same (x y : Sl) : ((decide (x.pl = y.pl) && decide (x.num = y.num)) && eqInt x.given y.given) = decide (x = y) := by
  cases x; cases y
  rw [Bool.eq_iff_iff]
  simp [eqInt, and_assoc]
theorem eqF_sl (S : List Sl) : eqF (fun x y : Sl => decide (x = y)) S S = true := (eqF_iff fun _ _ => decide_eq_true_iff).2 rfl
end
end Go.Proofs.Ytmcdamcedemdiaa
namespace Go.Proofs.Ytmcdamcedemdiaa
open Go.RowKit Go.Eng
set_option maxHeartbeats 1000000 in
theorem placed_ct  : Ct Try.prog 25 [] (bv true) := by
 refine CtO 113 Try.func25 rfl rfl rfl fun E => Sq <| Rq <| O (As K) <| Nq <| Sq <| Rt <| CT en103 (by exact Z) (family_ct) <| U (Mv (V rfl)) <| U (Xt (V rfl) (by decide)) <| U (Xt (V rfl) (by decide)) <| U (Xt (V rfl) (by decide)) <| Al 1 zero24 rfl rfl <| Al 2 zero113 rfl rfl <| StA (V rfl) rfl (V rfl) Sz24 <| StA (V rfl) rfl (V rfl) Sz113 <| U (As (V rfl)) <| Nt <| Sq <| Rt <| U (LBA (V rfl) rfl Ga24 Sz24 (by decide)) <| U (q_ixB (i := 0) (V rfl) K ta113 te113 (by rw [al113]; decide)) <| U (LBA (V rfl) rfl Ga26 Sz26 (by decide)) <| CT en74 (by exact ⟨⟨(Vi (g' := stG fam5) (V rfl) ⟨Z, Ir⟩), rfl⟩, ⟨(Vi (g' := hdCell ⟨0, 1⟩) (V rfl) ⟨⟨Z, Ir⟩, Ir⟩), rfl⟩, ⟨K, rfl⟩, Z⟩) (attach_ct fam5 ⟨0, 1⟩ false (by first | assumption | exact kb_nil | exact kb_of (by assumption) | exact kb_of fam_c5)) <| U (Mv (V rfl)) <| U (Xt (V rfl) (by decide)) <| U (Xt (V rfl) (by decide)) <| U (Xt (V rfl) (by decide)) <| Al 3 zero26 rfl rfl <| StA (V rfl) rfl (V rfl) Sz24 <| StA (V rfl) rfl (V rfl) Sz26 <| U (As (V rfl)) <| Nt <| Sq <| Rt <| U (LBA (V rfl) rfl Ga24 Sz24 (by decide)) <| CT en40 (by exact ⟨⟨(Vi (g' := stG ((attSt fam5 ⟨0, 1⟩ false).1)) (V rfl) ⟨Z, Ir⟩), rfl⟩, ⟨K, rfl⟩, Z⟩) (make_ct ((attSt fam5 ⟨0, 1⟩ false).1) 90 (kb_of (by decide +kernel))) <| U (Mv (V rfl)) <| U (Xt (V rfl) (by decide)) <| U (Xt (V rfl) (by decide)) <| ?_
 refine U (Xt (V rfl) (by decide)) <| Al 4 zero26 rfl rfl <| StA (V rfl) rfl (V rfl) Sz24 <| StA (V rfl) rfl (V rfl) Sz26 <| U (As (V rfl)) <| Nt <| Sq <| Rt <| U (LBA (V rfl) rfl Ga24 Sz24 (by decide)) <| U (LBA (V rfl) rfl Ga26 Sz26 (by decide)) <| U (LBA (V rfl) rfl Ga26 Sz26 (by decide)) <| CT en56 (by exact ⟨⟨(Vi (g' := stG ((mkSt ((attSt fam5 ⟨0, 1⟩ false).1) 90).1)) (V rfl) ⟨Z, Ir⟩), rfl⟩, ⟨(Vi (g' := hdCell ⟨(attSt fam5 ⟨0, 1⟩ false).2.1.pl, (attSt fam5 ⟨0, 1⟩ false).2.1.use⟩) (V rfl) ⟨⟨Z, Ir⟩, Ir⟩), rfl⟩, ⟨(Vi (g' := hdCell ⟨(mkSt ((attSt fam5 ⟨0, 1⟩ false).1) 90).2.1.pl, (mkSt ((attSt fam5 ⟨0, 1⟩ false).1) 90).2.1.use⟩) (V rfl) ⟨⟨Z, Ir⟩, Ir⟩), rfl⟩, ⟨Vn, rfl⟩, Z⟩) (insert_ct ((mkSt ((attSt fam5 ⟨0, 1⟩ false).1) 90).1) (attSt fam5 ⟨0, 1⟩ false).2.1 (mkSt ((attSt fam5 ⟨0, 1⟩ false).1) 90).2.1 ([]) (kb_of (by decide +kernel))) <| U (Mv (V rfl)) <| U (Xt (V rfl) (by decide)) <| U (Xt (V rfl) (by decide)) <| StA (V rfl) rfl (V rfl) Sz24 <| U (As (V rfl)) <| Nt <| Sq <| Rt <| U (LBA (V rfl) rfl Ga24 Sz24 (by decide)) <| U (q_ixB (i := 0) (V rfl) K ta113 te113 (by rw [al113]; decide)) <| U (LBA (V rfl) rfl Ga26 Sz26 (by decide)) <| CT en21 (by exact ⟨⟨(Vi (g' := stG ((insSt ((mkSt ((attSt fam5 ⟨0, 1⟩ false).1) 90).1) (attSt fam5 ⟨0, 1⟩ false).2.1 (mkSt ((attSt fam5 ⟨0, 1⟩ false).1) 90).2.1 ([])).1)) (V rfl) ⟨Z, Ir⟩), rfl⟩, ⟨(Vi (g' := hdCell ⟨0, 1⟩) (V rfl) ⟨⟨Z, Ir⟩, Ir⟩), rfl⟩, Z⟩) (slotsF_ct ((insSt ((mkSt ((attSt fam5 ⟨0, 1⟩ false).1) 90).1) (attSt fam5 ⟨0, 1⟩ false).2.1 (mkSt ((attSt fam5 ⟨0, 1⟩ false).1) 90).2.1 ([])).1) ⟨0, 1⟩ (kb_of (by decide +kernel))) <| U (Mv (V rfl)) <| U (Xt (V rfl) (by decide)) <| U (Xt (V rfl) (by decide)) <| U (As (V rfl)) <| U (As (V rfl)) <| Nt <| Sq <| Rt <| U (LBA (V rfl) rfl Ga24 Sz24 (by decide)) <| U (q_ixB (i := 1) (V rfl) K ta113 te113 (by rw [al113]; decide)) <| U (LBA (V rfl) rfl Ga26 Sz26 (by decide)) <| CT en22 (by exact ⟨⟨(Vi (g' := stG ((insSt ((mkSt ((attSt fam5 ⟨0, 1⟩ false).1) 90).1) (attSt fam5 ⟨0, 1⟩ false).2.1 (mkSt ((attSt fam5 ⟨0, 1⟩ false).1) 90).2.1 ([])).1)) (V rfl) ⟨Z, Ir⟩), rfl⟩, ⟨(Vi (g' := hdCell ⟨1, 1⟩) (V rfl) ⟨⟨Z, Ir⟩, Ir⟩), rfl⟩, Z⟩) (givenF_ct ((insSt ((mkSt ((attSt fam5 ⟨0, 1⟩ false).1) 90).1) (attSt fam5 ⟨0, 1⟩ false).2.1 (mkSt ((attSt fam5 ⟨0, 1⟩ false).1) 90).2.1 ([])).1) ⟨1, 1⟩ (kb_of (by decide +kernel))) <| U (Mv (V rfl)) <| U (Xt (V rfl) (by decide)) <| U (Xt (V rfl) (by decide)) <| U (As (V rfl)) <| ?_
 refine U (As (V rfl)) <| Nt <| Sq <| Rt <| U (LBA (V rfl) rfl Ga24 Sz24 (by decide)) <| U (q_ixB (i := 0) (V rfl) K ta113 te113 (by rw [al113]; decide)) <| U (LBA (V rfl) rfl Ga26 Sz26 (by decide)) <| CT en23 (by exact ⟨⟨(Vi (g' := stG ((insSt ((mkSt ((attSt fam5 ⟨0, 1⟩ false).1) 90).1) (attSt fam5 ⟨0, 1⟩ false).2.1 (mkSt ((attSt fam5 ⟨0, 1⟩ false).1) 90).2.1 ([])).1)) (V rfl) ⟨Z, Ir⟩), rfl⟩, ⟨(Vi (g' := hdCell ⟨0, 1⟩) (V rfl) ⟨⟨Z, Ir⟩, Ir⟩), rfl⟩, Z⟩) (flatF_ct ((insSt ((mkSt ((attSt fam5 ⟨0, 1⟩ false).1) 90).1) (attSt fam5 ⟨0, 1⟩ false).2.1 (mkSt ((attSt fam5 ⟨0, 1⟩ false).1) 90).2.1 ([])).1) ⟨0, 1⟩ (kb_of (by decide +kernel))) <| U (Mv (V rfl)) <| U (Xt (V rfl) (by decide)) <| U (Xt (V rfl) (by decide)) <| U (As (V rfl)) <| U (As (V rfl)) <| Nt <| Sq <| Rt <| U (Mv (V rfl)) <| U (Mv (V rfl)) <| Ug (Gy rfl rfl) (fun hg => Mv (V rfl)) <| Ug (Gy rfl rfl) (fun hg => Ql (Vg (V rfl) hg) K) <| U (Qa (V rfl) (fun h => Vg (V rfl) h)) <| U (Mv (V rfl)) <| Ug (Gy rfl rfl) (fun hg => Mv (V rfl)) <| Ug (Gy rfl rfl) (fun hg => Ql (Vg (V rfl) hg) K) <| U (Qa (V rfl) (fun h => Vg (V rfl) h)) <| U (Mv (V rfl)) <| Ug (Gy rfl rfl) (fun hg => Mv (V rfl)) <| Ug (Gy rfl rfl) (fun hg => Ql (Vg (V rfl) hg) K) <| U (Qa (V rfl) (fun h => Vg (V rfl) h)) <| U (Mv (V rfl)) <| Ug (Gy rfl rfl) (fun hg => Mv (V rfl)) <| Ug (Gy rfl rfl) (fun hg => Ql (Vg (V rfl) hg) K) <| U (Qa (V rfl) (fun h => Vg (V rfl) h)) <| U (Mv (V rfl)) <| Ug (Gy rfl rfl) (fun hg => Mv (V rfl)) <| Ug (Gy rfl rfl) (fun hg => Ql (Vg (V rfl) hg) K) <| U (Qa (V rfl) (fun h => Vg (V rfl) h)) <| U (Mv (V rfl)) <| Ug (Gy rfl rfl) (fun hg => Mv (V rfl)) <| Ug (Gy rfl rfl) (fun hg => Ql (Vg (V rfl) hg) K) <| ?_
 exact U (Qa (V rfl) (fun h => Vg (V rfl) h)) <| U (Mv (V rfl)) <| Ug (Gy rfl rfl) (fun hg => Mv (V rfl)) <| Ug (Gy rfl rfl) (fun hg => Ln (Vg (V rfl) hg) ts27) <| Ug (Gy rfl rfl) (fun hg => Ql (Vg (V rfl) hg) K) <| U (Qa (V rfl) (fun h => Vg (V rfl) h)) <| U (Mv (V rfl)) <| Ug (Gy rfl rfl) (fun hg => Mv (V rfl)) <| Ug (Gy rfl rfl) (fun hg => Ix (Vg (V rfl) hg) K ts27 te27 (by have hgs := hg; try simp only [BL] at hgs; omega) (by have hgs := hg; try simp only [BL] at hgs; omega)) <| Ug (Gy rfl rfl) (fun hg => Fl _ _ (Vg (V rfl) hg) Un41 rfl 0 Sz33) <| Ug (Gy rfl rfl) (fun hg => Ld (Vg (V rfl) hg) Ga33 (by decide)) <| UwG (Gy rfl rfl) (fun hg => w_bs (n := 2) (zget := fun _ => iv 0) [(fun _ => iv (2)), (fun _ => iv (1))] (rowG inCell 0 [2, 1]) Un33 Sz3 zero3 (by decide) rfl (by decide) ⟨⟨rfl, .inr ⟨rfl, K, rfl⟩, rfl⟩, ⟨rfl, .inr ⟨rfl, K, rfl⟩, rfl⟩, Z⟩ ⟨⟨Z, ⟨Z, rfl⟩⟩, ⟨Z, rfl⟩⟩) <| CTg (Gy rfl rfl) en26 (fun hg => (by exact ⟨⟨(Vg (V rfl) hg), rfl⟩, ⟨(Vg (V rfl) hg), rfl⟩, Z⟩)) (fun hg => equal_ct ((((slotsSt ((insSt ((mkSt ((attSt fam5 ⟨0, 1⟩ false).1) 90).1) (attSt fam5 ⟨0, 1⟩ false).2.1 (mkSt ((attSt fam5 ⟨0, 1⟩ false).1) 90).2.1 ([])).1) ⟨0, 1⟩).1).getD 0 default).given) ([2, 1])) <| U (Qa (V rfl) (fun h => Vg (V rfl) h)) <| U (Mv (V rfl)) <| Ug (Gy rfl rfl) (fun hg => Mv (V rfl)) <| Ug (Gy rfl rfl) (fun hg => FlB _ _ (V rfl) Un26 rfl 0 Sz3) <| Ug (Gy rfl rfl) (fun hg => LdB (Vg (V rfl) hg) rfl Ga3 (by decide)) <| Ug (Gy rfl rfl) (fun hg => Ql (Vg (V rfl) hg) (Vg (V rfl) hg)) <| U (Qa (V rfl) (fun h => Vg (V rfl) h)) <| U (Mv (V rfl)) <| Ug (Gy rfl rfl) (fun hg => Mv (V rfl)) <| Ug (Gy rfl rfl) (fun hg => FlB _ _ (V rfl) Un26 rfl 0 Sz3) <| Ug (Gy rfl rfl) (fun hg => LdB (Vg (V rfl) hg) rfl Ga3 (by decide)) <| UwG (Gy rfl rfl) (fun hg => w_bs (n := 4) (zget := fun _ => iv 0) [(fun _ => iv (0)), (fun _ => iv ((mkSt ((attSt fam5 ⟨0, 1⟩ false).1) 90).2.1.pl)), (fun _ => iv (2)), (fun _ => iv (1))] (rowG inCell 0 [0, (mkSt ((attSt fam5 ⟨0, 1⟩ false).1) 90).2.1.pl, 2, 1]) Un33 Sz3 zero3 (by decide) rfl (by decide) ⟨⟨rfl, .inr ⟨rfl, K, rfl⟩, rfl⟩, ⟨rfl, .inr ⟨rfl, (Vg (V rfl) hg), rfl⟩, rfl⟩, ⟨rfl, .inr ⟨rfl, K, rfl⟩, rfl⟩, ⟨rfl, .inr ⟨rfl, K, rfl⟩, rfl⟩, Z⟩ ⟨⟨⟨⟨Z, ⟨Z, rfl⟩⟩, ⟨Z, rfl⟩⟩, ⟨Z, rfl⟩⟩, ⟨Z, rfl⟩⟩) <| CTg (Gy rfl rfl) en26 (fun hg => (by exact ⟨⟨(Vg (V rfl) hg), rfl⟩, ⟨(Vg (V rfl) hg), rfl⟩, Z⟩)) (fun hg => equal_ct ((flatSt ((insSt ((mkSt ((attSt fam5 ⟨0, 1⟩ false).1) 90).1) (attSt fam5 ⟨0, 1⟩ false).2.1 (mkSt ((attSt fam5 ⟨0, 1⟩ false).1) 90).2.1 ([])).1) ⟨0, 1⟩).1) ([0, (mkSt ((attSt fam5 ⟨0, 1⟩ false).1) 90).2.1.pl, 2, 1])) <| U (Qa (V rfl) (fun h => Vg (V rfl) h)) <| U (As (V rfl)) <| Nt <| Rx <| R1 rfl (V rfl) rfl (by show bv ((((((((((true && (decide ((attSt fam5 ⟨0, 1⟩ false).2.2 = 0))) && (decide ((mkSt ((attSt fam5 ⟨0, 1⟩ false).1) 90).2.2 = 0))) && (decide ((insSt ((mkSt ((attSt fam5 ⟨0, 1⟩ false).1) 90).1) (attSt fam5 ⟨0, 1⟩ false).2.1 (mkSt ((attSt fam5 ⟨0, 1⟩ false).1) 90).2.1 ([])).2 = 0))) && (decide ((slotsSt ((insSt ((mkSt ((attSt fam5 ⟨0, 1⟩ false).1) 90).1) (attSt fam5 ⟨0, 1⟩ false).2.1 (mkSt ((attSt fam5 ⟨0, 1⟩ false).1) 90).2.1 ([])).1) ⟨0, 1⟩).2 = 0))) && (decide ((givenSt ((insSt ((mkSt ((attSt fam5 ⟨0, 1⟩ false).1) 90).1) (attSt fam5 ⟨0, 1⟩ false).2.1 (mkSt ((attSt fam5 ⟨0, 1⟩ false).1) 90).2.1 ([])).1) ⟨1, 1⟩).2 = 0))) && (decide ((flatSt ((insSt ((mkSt ((attSt fam5 ⟨0, 1⟩ false).1) 90).1) (attSt fam5 ⟨0, 1⟩ false).2.1 (mkSt ((attSt fam5 ⟨0, 1⟩ false).1) 90).2.1 ([])).1) ⟨0, 1⟩).2 = 0))) && (decide ((((slotsSt ((insSt ((mkSt ((attSt fam5 ⟨0, 1⟩ false).1) 90).1) (attSt fam5 ⟨0, 1⟩ false).2.1 (mkSt ((attSt fam5 ⟨0, 1⟩ false).1) 90).2.1 ([])).1) ⟨0, 1⟩).1).length : Int) = 1))) && (eqInt ((((slotsSt ((insSt ((mkSt ((attSt fam5 ⟨0, 1⟩ false).1) 90).1) (attSt fam5 ⟨0, 1⟩ false).2.1 (mkSt ((attSt fam5 ⟨0, 1⟩ false).1) 90).2.1 ([])).1) ⟨0, 1⟩).1).getD 0 default).given) ([2, 1]))) && (decide ((givenSt ((insSt ((mkSt ((attSt fam5 ⟨0, 1⟩ false).1) 90).1) (attSt fam5 ⟨0, 1⟩ false).2.1 (mkSt ((attSt fam5 ⟨0, 1⟩ false).1) 90).2.1 ([])).1) ⟨1, 1⟩).1 = (mkSt ((attSt fam5 ⟨0, 1⟩ false).1) 90).2.1.pl))) && (eqInt ((flatSt ((insSt ((mkSt ((attSt fam5 ⟨0, 1⟩ false).1) 90).1) (attSt fam5 ⟨0, 1⟩ false).2.1 (mkSt ((attSt fam5 ⟨0, 1⟩ false).1) 90).2.1 ([])).1) ⟨0, 1⟩).1) ([0, (mkSt ((attSt fam5 ⟨0, 1⟩ false).1) 90).2.1.pl, 2, 1]))) = bv true; exact congrArg bv (by decide +kernel))
theorem eqf28_ct {f : FuncId} {caps : List SV} (p : Sl → Sl → Bool) (hE : Enters Try.prog f) (hro : allRO caps = true) (hC : ∀ x y, Ct Try.prog f ([.agg 3 (slCell x), .agg 3 (slCell y)] ++ caps) (bv (p x y))) (l m : List Sl) : Ct Try.prog 28 [slRow l, slRow m, fnA f caps] (bv (eqF p l m)) := by
 refine CtO 32 Try.func28 rfl rfl rfl fun E => Rl (V (s := 0) rfl) fun hl0 => Rl (V (s := 1) rfl) fun hl1 => Sq <| Rq <| O (As K) <| Nq <| Sq <| Sq <| Rq <| O (Mv (V rfl)) <| O (Ln (V rfl) ts27) <| O (Mv (V rfl)) <| O (Ln (V rfl) ts27) <| O (Qn (V rfl) (V rfl)) <| Nq <| Cd (V rfl) (fun hc1 => ?_) (fun hc1 => ?_)
 ·have hc1s := hc1; try simp only [BL] at hc1s
  exact Sq <| Rq <| O (As K) <| Nq <| Rx <| R1 rfl (V rfl) rfl (by show bv (false) = bv (eqF p l m); rw [eqF_len (by omega)])
 ·have hc1s := hc1; try simp only [BL] at hc1s
  refine Sk <| Sq <| Sq <| Rq <| O (Mv (V rfl)) <| O (Ln (V rfl) ts27) <| O (Mv K) <| Nq <| Bo <| Lo (fun (i : Nat) => ⟨[(1, slRow m), (2, fnA f caps), (15, slRow l), (16, iv ((l.length : Int))), (17, iv ((i : Int)))], []⟩) (fun (i : Nat) => i ≤ l.length ∧ pre default p l m i) (fun (i : Nat) => l.length - i) 0 (by show 0 ≤ l.length ∧ pre default p l m 0; exact ⟨Nat.zero_le _, by omega, fun j hj => absurd hj (Nat.not_lt_zero _)⟩) (We (Vs rfl) Z) <| ?_
  ·rintro i hI1
   have hJ1 : i ≤ l.length ∧ pre default p l m i := hI1
   have hlm := hJ1.2.1
   refine Sq <| Rq <| O (Lt (V rfl) (V rfl)) <| Nq <| Sq <| Cd (V rfl) (fun hc2 => ?_) (fun hc2 => ?_)
   ·have hc2s := hc2; try simp only [BL] at hc2s
    refine Sk <| Sq <| Bo <| Sq <| Rt <| U (Mv (V rfl)) <| U (IxN (i := i) (V rfl) (V rfl) ts27 te27 (by omega)) <| U (LdA (V rfl) Ga41 Sz41 (by decide)) <| Al 1 zero41 rfl rfl <| U (As (V rfl)) <| StA (V rfl) rfl (V rfl) Sz41 <| Nt <| Sq <| Rt <| U (Mv (V rfl)) <| U (Mv (V rfl)) <| U (IxN (i := i) (V rfl) (V rfl) ts27 te27 (by omega)) <| U (LdA (V rfl) Ga41 Sz41 (by decide)) <| Al 2 zero41 rfl rfl <| StA (V rfl) rfl (V rfl) Sz41 <| Nt <| Sq <| Rq <| O (Mv (V rfl)) <| O (LBA (V rfl) rfl Ga41 Sz41 (by decide)) <| O (LBA (V rfl) rfl Ga41 Sz41 (by decide)) <| CQv (args := [SV.agg 3 (slCell ⟨(l.getD i default).pl, (l.getD i default).num, (l.getD i default).given⟩), SV.agg 3 (slCell ⟨(m.getD i default).pl, (m.getD i default).num, (m.getD i default).given⟩)]) (caps := caps) (fnval_A (V rfl)) hro hE (by exact ⟨⟨(Vi (g' := slCell ⟨(l.getD i default).pl, (l.getD i default).num, (l.getD i default).given⟩) (V rfl) ⟨⟨⟨Z, Ir⟩, Ir⟩, Ir⟩), rfl⟩, ⟨(Vi (g' := slCell ⟨(m.getD i default).pl, (m.getD i default).num, (m.getD i default).given⟩) (V rfl) ⟨⟨⟨Z, Ir⟩, Ir⟩, Ir⟩), rfl⟩, Z⟩) (hC (l.getD i default) (m.getD i default)) <| O (Qo (V rfl)) <| Nq <| Cd (V rfl) (fun hc3 => ?_) (fun hc3 => ?_)
    ·have hc3s := hc3; try simp only [BL] at hc3s
     exact Sq <| Rq <| O (As K) <| Nq <| Rx <| R1 rfl (V rfl) rfl (by show bv (false) = bv (eqF p l m); rw [eqF_bad default (i := i) (by omega) hlm (by simpa using hc3)])
    ·have hc3s := hc3; try simp only [BL] at hc3s
     exact Sk <| Rq <| O (Ad (V rfl) K (by omega)) <| O (Mv (V rfl)) <| Nq <| Nx (i + 1) (by show (i + 1) ≤ l.length ∧ pre default p l m (i + 1); exact ⟨by omega, pre_s hJ1.2 (by simpa using hc3)⟩) (by show l.length - (i + 1) < l.length - i; omega) (We (Vs rfl) Z)
   ·have hc2s := hc2; try simp only [BL] at hc2s
    exact Ex <| Sq <| Rq <| O (As K) <| Nq <| Rx <| R1 rfl (V rfl) rfl (by show bv (true) = bv (eqF p l m); rw [eqF_all default hlm (fun j hj => hJ1.2.2 j (by omega))])
theorem sameSl_ct (x y : Sl) : Ct Try.prog 30 [SV.agg 3 (slCell x), SV.agg 3 (slCell y)] (bv (decide (x = y))) := by
 exact CtO 24 Try.func30 rfl rfl rfl fun E => row_lenA 2 (V (s := 0) rfl) rfl rfl fun hl0_2 => row_lenA 2 (V (s := 1) rfl) rfl rfl fun hl1_2 => Sq <| Rt <| BxA 1 (V rfl) rfl rfl <| BxA 2 (V rfl) rfl rfl <| U (As K) <| Nt <| Sq <| Rq <| O (FlB _ _ (V rfl) Un41 rfl 0 Sz3) <| O (LdB (V rfl) rfl Ga3 (by decide)) <| O (FlB _ _ (V rfl) Un41 rfl 0 Sz3) <| O (LdB (V rfl) rfl Ga3 (by decide)) <| O (Ql (V rfl) (V rfl)) <| O (Mv (V rfl)) <| Og (Gy rfl rfl) (fun hg => FlB _ _ (V rfl) Un41 rfl 0 Sz3) <| Og (Gy rfl rfl) (fun hg => LdB (Vg (V rfl) hg) rfl Ga3 (by decide)) <| Og (Gy rfl rfl) (fun hg => FlB _ _ (V rfl) Un41 rfl 0 Sz3) <| Og (Gy rfl rfl) (fun hg => LdB (Vg (V rfl) hg) rfl Ga3 (by decide)) <| Og (Gy rfl rfl) (fun hg => Ql (Vg (V rfl) hg) (Vg (V rfl) hg)) <| O (Qa (V rfl) (fun h => Vg (V rfl) h)) <| O (Mv (V rfl)) <| Og (Gy rfl rfl) (fun hg => FlB _ _ (V rfl) Un41 rfl 0 Sz33) <| Og (Gy rfl rfl) (fun hg => LdB (Vg (V rfl) hg) rfl Ga33 (by decide)) <| Og (Gy rfl rfl) (fun hg => FlB _ _ (V rfl) Un41 rfl 0 Sz33) <| Og (Gy rfl rfl) (fun hg => LdB (Vg (V rfl) hg) rfl Ga33 (by decide)) <| CQg (Gy rfl rfl) en26 (fun hg => (by exact ⟨⟨(Vg (V rfl) hg), rfl⟩, ⟨(Vg (V rfl) hg), rfl⟩, Z⟩)) (fun hg => equal_ct x.given y.given) <| O (Qa (V rfl) (fun h => Vg (V rfl) h)) <| O (As (V rfl)) <| Nq <| Rx <| R1 rfl (V rfl) rfl (by show bv (((decide (x.pl = y.pl)) && (decide (x.num = y.num))) && (eqInt x.given y.given)) = bv (decide (x = y)); exact congrArg bv (sl_same x y))
theorem slotSays_ct (l : List Nd) (h : Hd) (hb : ∀ n ∈ l, n.kids.length ≤ 17592186043904) : Ct Try.prog 3 [SV.agg 1 (stG l), SV.agg 2 (hdCell h)] (bv true) := by
 refine CtO 83 Try.func3 rfl rfl rfl fun E => row_lenA 0 (V (s := 0) rfl) rfl rfl fun hl0_0 => Sq <| Rt <| BxA 1 (V rfl) rfl rfl <| BxA 2 (V rfl) rfl rfl <| U (As K) <| Nt <| Sq <| Rt <| U (LBA (V rfl) rfl Ga24 Sz24 (by decide)) <| U (LBA (V rfl) rfl Ga26 Sz26 (by decide)) <| CT en21 (by exact ⟨⟨(Vi (g' := stG l) (V rfl) ⟨Z, Ir⟩), rfl⟩, ⟨(Vi (g' := hdCell ⟨h.pl, h.use⟩) (V rfl) ⟨⟨Z, Ir⟩, Ir⟩), rfl⟩, Z⟩) (slotsF_ct l h (by first | assumption | exact kb_nil | exact kb_of (by assumption) | exact kb_of fam_c5)) <| U (Mv (V rfl)) <| U (Xt (V rfl) (by decide)) <| U (Xt (V rfl) (by decide)) <| U (As (V rfl)) <| U (As (V rfl)) <| Nt <| Sq <| Rt <| U (LBA (V rfl) rfl Ga24 Sz24 (by decide)) <| U (LBA (V rfl) rfl Ga26 Sz26 (by decide)) <| CT en22 (by exact ⟨⟨(Vi (g' := stG l) (V rfl) ⟨Z, Ir⟩), rfl⟩, ⟨(Vi (g' := hdCell ⟨h.pl, h.use⟩) (V rfl) ⟨⟨Z, Ir⟩, Ir⟩), rfl⟩, Z⟩) (givenF_ct l h (by first | assumption | exact kb_nil | exact kb_of (by assumption) | exact kb_of fam_c5)) <| U (Mv (V rfl)) <| U (Xt (V rfl) (by decide)) <| U (Xt (V rfl) (by decide)) <| U (As (V rfl)) <| U (As (V rfl)) <| Nt <| Sq <| Rt <| U (LBA (V rfl) rfl Ga24 Sz24 (by decide)) <| U (LBA (V rfl) rfl Ga26 Sz26 (by decide)) <| CT en23 (by exact ⟨⟨(Vi (g' := stG l) (V rfl) ⟨Z, Ir⟩), rfl⟩, ⟨(Vi (g' := hdCell ⟨h.pl, h.use⟩) (V rfl) ⟨⟨Z, Ir⟩, Ir⟩), rfl⟩, Z⟩) (flatF_ct l h (by first | assumption | exact kb_nil | exact kb_of (by assumption) | exact kb_of fam_c5)) <| U (Mv (V rfl)) <| U (Xt (V rfl) (by decide)) <| U (Xt (V rfl) (by decide)) <| U (As (V rfl)) <| U (As (V rfl)) <| ?_
 refine Nt <| Sq <| Rt <| U (LBA (V rfl) rfl Ga24 Sz24 (by decide)) <| U (LBA (V rfl) rfl Ga26 Sz26 (by decide)) <| CT en24 (by exact ⟨⟨(Vi (g' := stG l) (V rfl) ⟨Z, Ir⟩), rfl⟩, ⟨(Vi (g' := hdCell ⟨h.pl, h.use⟩) (V rfl) ⟨⟨Z, Ir⟩, Ir⟩), rfl⟩, Z⟩) (flatOf_ct l h (by first | assumption | exact kb_nil | exact kb_of (by assumption) | exact kb_of fam_c5)) <| U (Mv (V rfl)) <| U (Xt (V rfl) (by decide)) <| U (Xt (V rfl) (by decide)) <| U (As (V rfl)) <| U (As (V rfl)) <| Nt <| Sq <| Sq <| Rq <| CQ en25 (by exact Z) (placed_ct) <| O (Qo (V rfl)) <| O (Mv (V rfl)) <| Og (Gn rfl rfl) (fun hg => Mv (V rfl)) <| Og (Gn rfl rfl) (fun hg => Mv (V rfl)) <| Og (Gn rfl rfl) (fun hg => Qn (Vg (V rfl) hg) (Vg (V rfl) hg)) <| O (Qr (V rfl) (fun h => Vg (V rfl) (notT h))) <| O (Mv (V rfl)) <| Og (Gn rfl rfl) (fun hg => Mv (V rfl)) <| Og (Gn rfl rfl) (fun hg => Mv (V rfl)) <| CQg (Gn rfl rfl) en26 (fun hg => (by exact ⟨⟨(Vg (V rfl) hg), rfl⟩, ⟨(Vg (V rfl) hg), rfl⟩, Z⟩)) (fun hg => equal_ct ((flatSt l h).1) ((flatSt l h).1)) <| Og (Gn rfl rfl) (fun hg => Qo (Vg (V rfl) hg)) <| O (Qr (V rfl) (fun h => Vg (V rfl) (notT h))) <| O (Mv (V rfl)) <| Og (Gn rfl rfl) (fun hg => Mv (V rfl)) <| Og (Gn rfl rfl) (fun hg => Mv (V rfl)) <| Og (Gn rfl rfl) (fun hg => Qn (Vg (V rfl) hg) (Vg (V rfl) hg)) <| O (Qr (V rfl) (fun h => Vg (V rfl) (notT h))) <| O (Mv (V rfl)) <| Og (Gn rfl rfl) (fun hg => Mv (V rfl)) <| Og (Gn rfl rfl) (fun hg => Mv (V rfl)) <| Og (Gn rfl rfl) (fun hg => Qn (Vg (V rfl) hg) (Vg (V rfl) hg)) <| O (Qr (V rfl) (fun h => Vg (V rfl) (notT h))) <| Nq <| Cd (V rfl) (fun hc1 => ?_) (fun hc1 => ?_)
 ·have hc1s := hc1; try simp only [BL] at hc1s
  exact absurd hc1 (ff says_no)
  --done
 ·have hc1s := hc1; try simp only [BL] at hc1s
  refine Sk <| Sq <| Sq <| Rq <| O (Mv (V rfl)) <| O (Qn (V rfl) K) <| Nq <| Cd (V rfl) (fun hc2 => ?_) (fun hc2 => ?_)
  ·have hc2s := hc2; try simp only [BL] at hc2s
   exact Sq <| Rq <| O (Mv (V rfl)) <| O (Ln (V rfl) ts27) <| O (Ql (V rfl) K) <| O (Mv (V rfl)) <| Og (Gy rfl rfl) (fun hg => Mv (V rfl)) <| Og (Gy rfl rfl) (fun hg => Ql (Vg (V rfl) hg) K) <| O (Qa (V rfl) (fun h => Vg (V rfl) h)) <| O (As (V rfl)) <| Nq <| Rx <| R1 rfl (V rfl) rfl (by show bv ((decide ((((slotsSt l h).1).length : Int) = 0)) && (decide ((givenSt l h).1 = 0))) = bv true; exact congrArg bv (says_bad hc2s))
  ·have hc2s := hc2; try simp only [BL] at hc2s
   have hso := says_ok hc2s
   have hf0 := hso.1
   have hc0 := (first1 hf0).1
   have hpl := (first1 hf0).2.2.1
   exact Sk <| Sq <| Rt <| U (Mv (V rfl)) <| U (LBA (V rfl) rfl Ga24 Sz24 (by decide)) <| U (FlB _ _ (V rfl) Un26 rfl 0 Sz3) <| U (LdB (V rfl) rfl Ga3 (by decide)) <| CT en27 (by exact ⟨⟨(Vi (g' := stG l) (V rfl) ⟨Z, Ir⟩), rfl⟩, ⟨(V rfl), rfl⟩, Z⟩) (givenTo_ct l h.pl (by assumption) (by first | assumption | omega) (by first | assumption | exact kb_nil | exact kb_of (by assumption) | exact kb_of fam_c5)) <| U (Ql (V rfl) (V rfl)) <| U (Mv (V rfl)) <| Ug (Gy rfl rfl) (fun hg => Mv (V rfl)) <| Ug (Gy rfl rfl) (fun hg => LBA (V rfl) rfl Ga24 Sz24 (by decide)) <| Ug (Gy rfl rfl) (fun hg => FlB _ _ (V rfl) Un26 rfl 0 Sz3) <| Ug (Gy rfl rfl) (fun hg => LdB (Vg (V rfl) hg) rfl Ga3 (by decide)) <| CTg (Gy rfl rfl) en29 (fun hg => (by exact ⟨⟨(Vi (g' := stG l) (Vg (V rfl) hg) ⟨Z, Ir⟩), rfl⟩, ⟨(Vg (V rfl) hg), rfl⟩, Z⟩)) (fun hg => slotsOf_ct l h.pl (by assumption) (by first | assumption | omega) (by first | assumption | exact kb_nil | exact kb_of (by assumption) | exact kb_of fam_c5)) <| CTg (Gy rfl rfl) en28 (fun hg => (by exact ⟨⟨(Vg (V rfl) hg), rfl⟩, ⟨(Vg (V rfl) hg), rfl⟩, ⟨(VA (Vf) rfl), rfl⟩, Z⟩)) (fun hg => eqf28_ct (fun x y => decide (x = y)) en30 rfl sameSl_ct ((slotsSt l h).1) (slotsK l h.pl)) <| U (Qa (V rfl) (fun h => Vg (V rfl) h)) <| U (As (V rfl)) <| Nt <| Rx <| R1 rfl (V rfl) rfl (by show bv ((decide ((givenSt l h).1 = givenI l h.pl)) && (eqF (fun x y : Sl => decide (x = y)) ((slotsSt l h).1) (slotsK l h.pl))) = bv true; exact congrArg bv (by rw [hso.2.1, hso.2.2, eqF_sl, decide_eq_true rfl]; rfl))
end Go.Proofs.Ytmcdamcedemdiaa
