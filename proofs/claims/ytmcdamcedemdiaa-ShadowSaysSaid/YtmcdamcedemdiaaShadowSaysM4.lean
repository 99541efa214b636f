/- What the proof of ShadowSays rests on, part 4: the engine, the walks, the plain laws. -/
import Derived.Test.YtmcdamcedemdiaaShadowSaysM3
set_option linter.unusedVariables false
set_option linter.unusedSimpArgs false
namespace Go.Proofs.Ytmcdamcedemdiaa
open Go.RowKit Go.Eng
theorem copyU_ct (l : List Nd) (hl : l.length ≤ 24) (hk : ∀ i, i < l.length → (l.getD i default).kids.length ≤ 24) : CtM Try.prog 115 [SV.agg 1 (stG l)] [] (SV.agg 1 (cmpG [SV.own 0])) [(0, urowOf ndCell 8 default l 61 5 Nd.kids inCell 1 0 3 l.length none)] := by
 refine CmO 27 Try.func115 rfl rfl rfl fun E => row_lenA 0 (V (s := 0) rfl) rfl rfl fun hl0_0 => Sq <| Rt <| BxA 1 (V rfl) rfl rfl <| Al 2 zero24 rfl rfl <| Nt <| Sq <| Rt <| U (FlB _ _ (V rfl) Un24 rfl 0 Sz22) <| U (LdB (V rfl) rfl Ga22 (by decide)) <| CM (cargs := [ndRow l]) [] [(0, 3)] en147 (by exact ⟨(V rfl), Z⟩) (cloneN_ct l (by omega)) (by exact Z) rfl rfl rfl rfl <| U (FlB _ _ (V rfl) Un24 rfl 0 Sz22) <| t_st1V (V rfl) rfl (V rfl) (one_own rfl) Sz22 (by decide) <| Nt <| Sq <| Sq <| Rq <| O (FlB _ _ (V rfl) Un24 rfl 0 Sz22) <| O (LdB (V rfl) rfl Ga22 (by decide)) <| O (LnO (V rfl) rfl ts22) <| O (Mv K) <| Nq <| Bo <| Tc (turn_u0T 3 5 Nd.kids inCell 1 0 3 rfl rfl) <| Lo (fun (i : Nat) => ⟨[(1, SV.bp 1 0), (2, SV.bp 2 0), (10, SV.own 3), (11, iv ((l.length : Int))), (12, iv ((i : Int)))], [(1, Own.box 1 (upd (stG l) 0 (SV.own 3)) 24), (2, Own.box 1 (cmpG [SV.v (Value.slice none 0 0)]) 24), (3, urowOf ndCell 8 default l 61 5 Nd.kids inCell 1 0 3 i none)]⟩) (fun (i : Nat) => i ≤ l.length) (fun (i : Nat) => l.length - i) 0 (by show 0 ≤ l.length; exact Nat.zero_le _) (We (ow := [(1, Own.box 1 (upd (stG l) 0 (SV.own 3)) 24), (2, Own.box 1 (cmpG [SV.v (Value.slice none 0 0)]) 24), (3, urowOf ndCell 8 default l 61 5 Nd.kids inCell 1 0 3 0 none)]) (Vs rfl) (by exact ⟨⟨_, rfl, rfl, rfl, (An rfl)⟩, ⟨_, rfl, rfl, rfl, (An rfl)⟩, ⟨_, rfl, rfl⟩, Z⟩)) <| ?_
 ·rintro i hI1
  have hJ1 : i ≤ l.length := hI1
  refine Sq <| Rq <| O (Lt (V rfl) (V rfl)) <| Nq <| Sq <| Cd (V rfl) (fun hc1 => ?_) (fun hc1 => ?_)
  ·have hc1s := hc1; try simp only [BL] at hc1s
   have hki := hk i (by omega)
   refine Sk <| Sq <| Bo <| Sq <| Rt <| U (Mv (V rfl)) <| U (IUn (i := i) (V rfl) rfl (V rfl) ts22 te22 (by omega)) <| U (LUA (gt := fun zi => ([bv ((l.getD i default).used), iv ((l.getD i default).uses), iv ((l.getD i default).tag), iv ((l.getD i default).mark), iv ((l.getD i default).par), inRow ((l.getD i default).kids), iv ((l.getD i default).host), bv ((l.getD i default).closed)] : List SV).getD zi .junk) (V rfl) rfl Ga61 Sz61 (by decide) ⟨⟨⟨⟨⟨⟨⟨⟨Z, rfl⟩, rfl⟩, rfl⟩, rfl⟩, rfl⟩, (uat_late (by omega))⟩, rfl⟩, rfl⟩) <| Al 4 zero61 rfl rfl <| U (As (V rfl)) <| StA (V rfl) rfl (V rfl) Sz61 <| Nt <| c_rd (fun e => ⟨[(17, cj (e 0) (SV.bp 1 0)), (18, cj (e 1) (SV.own 3)), (19, cj (e 2) (iv ((i : Int)))), (20, cj (e 3) (SV.bp 4 5)), (21, cj (e 4) (inRow ((l.getD i default).kids))), (22, cj (e 5) (SV.own 5)), (23, cj (e 6) (SV.oe 3 8 i 0)), (24, cj (e 7) (SV.oe 3 8 i 5)), (1, SV.bp 1 0), (2, SV.bp 2 0), (3, iv ((i : Int))), (4, SV.bp 4 0), (10, SV.own 3), (11, iv ((l.length : Int))), (12, iv ((i : Int)))], (cb (e 5) (cb (e 8) [(1, Own.box 1 (upd (stG l) 0 (SV.own 3)) 24), (2, Own.box 1 (cmpG [SV.v (Value.slice none 0 0)]) 24), (3, urowOf ndCell 8 default l 61 5 Nd.kids inCell 1 0 3 i (some (i, SV.own 5))), (4, Own.box 8 (fun zi => ([bv ((l.getD i default).used), iv ((l.getD i default).uses), iv ((l.getD i default).tag), iv ((l.getD i default).mark), iv ((l.getD i default).par), inRow ((l.getD i default).kids), iv ((l.getD i default).host), bv ((l.getD i default).closed)] : List SV).getD zi .junk) 61), (5, ownOf inCell 1 0 ((l.getD i default).kids) 3)] [(1, Own.box 1 (upd (stG l) 0 (SV.own 3)) 24), (2, Own.box 1 (cmpG [SV.v (Value.slice none 0 0)]) 24), (3, urowOf ndCell 8 default l 61 5 Nd.kids inCell 1 0 3 i none), (4, Own.box 8 (fun zi => ([bv ((l.getD i default).used), iv ((l.getD i default).uses), iv ((l.getD i default).tag), iv ((l.getD i default).mark), iv ((l.getD i default).par), inRow ((l.getD i default).kids), iv ((l.getD i default).host), bv ((l.getD i default).closed)] : List SV).getD zi .junk) 61), (5, ownOf inCell 1 0 ((l.getD i default).kids) 3)]) (cb (e 8) [] [(1, Own.box 1 (upd (stG l) 0 (SV.own 3)) 24), (2, Own.box 1 (cmpG [SV.v (Value.slice none 0 0)]) 24), (3, urowOf ndCell 8 default l 61 5 Nd.kids inCell 1 0 3 i none), (4, Own.box 8 (fun zi => ([bv ((l.getD i default).used), iv ((l.getD i default).uses), iv ((l.getD i default).tag), iv ((l.getD i default).mark), iv ((l.getD i default).par), inRow ((l.getD i default).kids), iv ((l.getD i default).host), bv ((l.getD i default).closed)] : List SV).getD zi .junk) 61)]))⟩) ⟨[(17, SV.bp 1 0), (18, SV.own 3), (19, iv ((i : Int))), (20, SV.bp 4 5), (21, inRow ((l.getD i default).kids)), (22, SV.own 5), (23, SV.oe 3 8 i 0), (24, SV.oe 3 8 i 5), (1, SV.bp 1 0), (2, SV.bp 2 0), (3, iv ((i : Int))), (4, SV.bp 4 0), (10, SV.own 3), (11, iv ((l.length : Int))), (12, iv ((i : Int)))], [(1, Own.box 1 (upd (stG l) 0 (SV.own 3)) 24), (2, Own.box 1 (cmpG [SV.v (Value.slice none 0 0)]) 24), (3, urowOf ndCell 8 default l 61 5 Nd.kids inCell 1 0 3 i (some (i, SV.own 5))), (4, Own.box 8 (fun zi => ([bv ((l.getD i default).used), iv ((l.getD i default).uses), iv ((l.getD i default).tag), iv ((l.getD i default).mark), iv ((l.getD i default).par), inRow ((l.getD i default).kids), iv ((l.getD i default).host), bv ((l.getD i default).closed)] : List SV).getD zi .junk) 61), (5, ownOf inCell 1 0 ((l.getD i default).kids) 3)]⟩ (by kernel_rfl) (by kernel_rfl) ?_ ⟨?_, ?_, ?_, ?_, ?_, ?_, ?_, ?_, ?_, Z⟩ ?_ ?_
   ·show Weak _ _ ⟨[(17, SV.junk), (18, SV.junk), (19, SV.junk), (20, SV.junk), (21, SV.junk), (22, SV.junk), (23, SV.junk), (24, SV.junk), (1, SV.bp 1 0), (2, SV.bp 2 0), (3, iv ((i : Int))), (4, SV.bp 4 0), (10, SV.own 3), (11, iv ((l.length : Int))), (12, iv ((i : Int)))], [(1, Own.box 1 (upd (stG l) 0 (SV.own 3)) 24), (2, Own.box 1 (cmpG [SV.v (Value.slice none 0 0)]) 24), (3, urowOf ndCell 8 default l 61 5 Nd.kids inCell 1 0 3 i none), (4, Own.box 8 (fun zi => ([bv ((l.getD i default).used), iv ((l.getD i default).uses), iv ((l.getD i default).tag), iv ((l.getD i default).mark), iv ((l.getD i default).par), inRow ((l.getD i default).kids), iv ((l.getD i default).host), bv ((l.getD i default).closed)] : List SV).getD zi .junk) 61)]⟩
    refine We ?_ ?_
    ·exact ⟨Vj, Vj, Vj, Vj, Vj, Vj, Vj, Vj, V rfl, V rfl, V rfl, V rfl, V rfl, V rfl, V rfl, Z⟩
    ·exact ⟨⟨_, rfl, ⟨rfl, rfl, (An rfl)⟩⟩, ⟨_, rfl, ⟨rfl, rfl, (An rfl)⟩⟩, ⟨_, rfl, rfl⟩, ⟨_, rfl, ⟨rfl, rfl, (An rfl)⟩⟩, Z⟩
   ·intro e hdn he hdp
    have h8 : e 8 = false := fls he fun q => by obtain ⟨r7, -, -, -, -, -, -, -, -, -⟩ := (show e 7 = true ∧ e 5 = true ∧ e 5 = true ∧ e 0 = true ∧ e 1 = true ∧ e 2 = true ∧ e 3 = true ∧ e 4 = true ∧ e 5 = true ∧ True from hdn 8 q); obtain ⟨r6, -, -, -, -, -, -, -⟩ := (show e 6 = true ∧ e 0 = true ∧ e 1 = true ∧ e 2 = true ∧ e 3 = true ∧ e 4 = true ∧ e 5 = true ∧ True from hdn 7 r7); obtain ⟨r1, -, -, -, -, -, -, -, -⟩ := (show e 1 = true ∧ e 2 = true ∧ e 0 = true ∧ e 1 = true ∧ e 2 = true ∧ e 3 = true ∧ e 4 = true ∧ e 5 = true ∧ True from hdn 6 r6); obtain ⟨r0, -⟩ := (show e 0 = true ∧ True from hdn 1 r1); exact r0
    simp only [setE, he, h8, cj_t, cj_f, cjn_t, cjn_f, cb_t, cb_f]
    exact U (FlB _ _ (V rfl) Un24 rfl 0 Sz22) <| Nt <| weakS ⟨V rfl, V rfl, V rfl, V rfl, V rfl, V rfl, V rfl, V rfl, V rfl, V rfl, V rfl, V rfl, V rfl, V rfl, V rfl, Z⟩
   ·intro e hdn he hdp
    obtain ⟨h0, -⟩ := (show e 0 = true ∧ True from hdp)
    have h8 : e 8 = false := fls he fun q => by obtain ⟨r7, -, -, -, -, -, -, -, -, -⟩ := (show e 7 = true ∧ e 5 = true ∧ e 5 = true ∧ e 0 = true ∧ e 1 = true ∧ e 2 = true ∧ e 3 = true ∧ e 4 = true ∧ e 5 = true ∧ True from hdn 8 q); obtain ⟨r6, -, -, -, -, -, -, -⟩ := (show e 6 = true ∧ e 0 = true ∧ e 1 = true ∧ e 2 = true ∧ e 3 = true ∧ e 4 = true ∧ e 5 = true ∧ True from hdn 7 r7); obtain ⟨r1, -, -, -, -, -, -, -, -⟩ := (show e 1 = true ∧ e 2 = true ∧ e 0 = true ∧ e 1 = true ∧ e 2 = true ∧ e 3 = true ∧ e 4 = true ∧ e 5 = true ∧ True from hdn 6 r6); exact r1
    cases hu5 : e 5
    ·simp only [setE, h0, he, h8, hu5, cj_t, cj_f, cjn_t, cjn_f, cb_t, cb_f]
     refine U (LdB (V rfl) rfl Ga22 (by decide)) <| Nt <| We ?_ ?_
     ·exact ⟨V rfl, V rfl, V rfl, V rfl, V rfl, Vj, V rfl, V rfl, V rfl, V rfl, V rfl, V rfl, V rfl, V rfl, V rfl, Z⟩
     ·exact ⟨⟨_, rfl, ⟨rfl, rfl, (An rfl)⟩⟩, ⟨_, rfl, ⟨rfl, rfl, (An rfl)⟩⟩, ⟨_, rfl, rfl⟩, ⟨_, rfl, ⟨rfl, rfl, (An rfl)⟩⟩, Z⟩
    ·simp only [setE, h0, he, h8, hu5, cj_t, cj_f, cjn_t, cjn_f, cb_t, cb_f]
     refine U (LdB (V rfl) rfl Ga22 (by decide)) <| Nt <| We ?_ ?_
     ·exact ⟨V rfl, V rfl, V rfl, V rfl, V rfl, V rfl, V rfl, V rfl, V rfl, V rfl, V rfl, V rfl, V rfl, V rfl, V rfl, Z⟩
     ·exact ⟨⟨_, rfl, ⟨rfl, rfl, (An rfl)⟩⟩, ⟨_, rfl, ⟨rfl, rfl, (An rfl)⟩⟩, ⟨_, rfl, rfl⟩, ⟨_, rfl, ⟨rfl, rfl, (An rfl)⟩⟩, ⟨_, rfl, rfl⟩, Z⟩
   ·intro e hdn he hdp
    have h8 : e 8 = false := fls he fun q => by obtain ⟨r7, -, -, -, -, -, -, -, -, -⟩ := (show e 7 = true ∧ e 5 = true ∧ e 5 = true ∧ e 0 = true ∧ e 1 = true ∧ e 2 = true ∧ e 3 = true ∧ e 4 = true ∧ e 5 = true ∧ True from hdn 8 q); obtain ⟨r6, -, -, -, -, -, -, -⟩ := (show e 6 = true ∧ e 0 = true ∧ e 1 = true ∧ e 2 = true ∧ e 3 = true ∧ e 4 = true ∧ e 5 = true ∧ True from hdn 7 r7); obtain ⟨-, r2, -, -, -, -, -, -, -⟩ := (show e 1 = true ∧ e 2 = true ∧ e 0 = true ∧ e 1 = true ∧ e 2 = true ∧ e 3 = true ∧ e 4 = true ∧ e 5 = true ∧ True from hdn 6 r6); exact r2
    simp only [setE, he, h8, cj_t, cj_f, cjn_t, cjn_f, cb_t, cb_f]
    exact U (Mv (V rfl)) <| Nt <| weakS ⟨V rfl, V rfl, V rfl, V rfl, V rfl, V rfl, V rfl, V rfl, V rfl, V rfl, V rfl, V rfl, V rfl, V rfl, V rfl, Z⟩
   ·intro e hdn he hdp
    have h5 : e 5 = false := fls he fun q => by obtain ⟨r4, -⟩ := (show e 4 = true ∧ True from hdn 5 q); obtain ⟨r3, -⟩ := (show e 3 = true ∧ True from hdn 4 r4); exact r3
    have h8 : e 8 = false := fls he fun q => by obtain ⟨r7, -, -, -, -, -, -, -, -, -⟩ := (show e 7 = true ∧ e 5 = true ∧ e 5 = true ∧ e 0 = true ∧ e 1 = true ∧ e 2 = true ∧ e 3 = true ∧ e 4 = true ∧ e 5 = true ∧ True from hdn 8 q); obtain ⟨r6, -, -, -, -, -, -, -⟩ := (show e 6 = true ∧ e 0 = true ∧ e 1 = true ∧ e 2 = true ∧ e 3 = true ∧ e 4 = true ∧ e 5 = true ∧ True from hdn 7 r7); obtain ⟨-, -, -, -, -, -, -, r5, -⟩ := (show e 1 = true ∧ e 2 = true ∧ e 0 = true ∧ e 1 = true ∧ e 2 = true ∧ e 3 = true ∧ e 4 = true ∧ e 5 = true ∧ True from hdn 6 r6); obtain ⟨r4, -⟩ := (show e 4 = true ∧ True from hdn 5 r5); obtain ⟨r3, -⟩ := (show e 3 = true ∧ True from hdn 4 r4); exact r3
    simp only [setE, he, h5, h8, cj_t, cj_f, cjn_t, cjn_f, cb_t, cb_f]
    refine U (FlB _ _ (V rfl) Un61 rfl 0 Sz33) <| Nt <| We ?_ ?_
    ·exact ⟨V rfl, V rfl, V rfl, V rfl, V rfl, Vj, V rfl, V rfl, V rfl, V rfl, V rfl, V rfl, V rfl, V rfl, V rfl, Z⟩
    ·exact ⟨⟨_, rfl, ⟨rfl, rfl, (An rfl)⟩⟩, ⟨_, rfl, ⟨rfl, rfl, (An rfl)⟩⟩, ⟨_, rfl, rfl⟩, ⟨_, rfl, ⟨rfl, rfl, (An rfl)⟩⟩, Z⟩
   ·intro e hdn he hdp
    obtain ⟨h3, -⟩ := (show e 3 = true ∧ True from hdp)
    have h5 : e 5 = false := fls he fun q => by obtain ⟨r4, -⟩ := (show e 4 = true ∧ True from hdn 5 q); exact r4
    have h8 : e 8 = false := fls he fun q => by obtain ⟨r7, -, -, -, -, -, -, -, -, -⟩ := (show e 7 = true ∧ e 5 = true ∧ e 5 = true ∧ e 0 = true ∧ e 1 = true ∧ e 2 = true ∧ e 3 = true ∧ e 4 = true ∧ e 5 = true ∧ True from hdn 8 q); obtain ⟨r6, -, -, -, -, -, -, -⟩ := (show e 6 = true ∧ e 0 = true ∧ e 1 = true ∧ e 2 = true ∧ e 3 = true ∧ e 4 = true ∧ e 5 = true ∧ True from hdn 7 r7); obtain ⟨-, -, -, -, -, -, -, r5, -⟩ := (show e 1 = true ∧ e 2 = true ∧ e 0 = true ∧ e 1 = true ∧ e 2 = true ∧ e 3 = true ∧ e 4 = true ∧ e 5 = true ∧ True from hdn 6 r6); obtain ⟨r4, -⟩ := (show e 4 = true ∧ True from hdn 5 r5); exact r4
    simp only [setE, h3, he, h5, h8, cj_t, cj_f, cjn_t, cjn_f, cb_t, cb_f]
    refine U (LdB (V rfl) rfl Ga33 (by decide)) <| Nt <| We ?_ ?_
    ·exact ⟨V rfl, V rfl, V rfl, V rfl, V rfl, Vj, V rfl, V rfl, V rfl, V rfl, V rfl, V rfl, V rfl, V rfl, V rfl, Z⟩
    ·exact ⟨⟨_, rfl, ⟨rfl, rfl, (An rfl)⟩⟩, ⟨_, rfl, ⟨rfl, rfl, (An rfl)⟩⟩, ⟨_, rfl, rfl⟩, ⟨_, rfl, ⟨rfl, rfl, (An rfl)⟩⟩, Z⟩
   ·intro e hdn he hdp
    obtain ⟨h4, -⟩ := (show e 4 = true ∧ True from hdp)
    obtain ⟨h3, -⟩ := (show e 3 = true ∧ True from hdn 4 h4)
    have h6 : e 6 = false := fls he fun q => by obtain ⟨-, -, -, -, -, -, -, r5, -⟩ := (show e 1 = true ∧ e 2 = true ∧ e 0 = true ∧ e 1 = true ∧ e 2 = true ∧ e 3 = true ∧ e 4 = true ∧ e 5 = true ∧ True from hdn 6 q); exact r5
    have h7 : e 7 = false := fls he fun q => by obtain ⟨r6, -, -, -, -, -, -, -⟩ := (show e 6 = true ∧ e 0 = true ∧ e 1 = true ∧ e 2 = true ∧ e 3 = true ∧ e 4 = true ∧ e 5 = true ∧ True from hdn 7 q); obtain ⟨-, -, -, -, -, -, -, r5, -⟩ := (show e 1 = true ∧ e 2 = true ∧ e 0 = true ∧ e 1 = true ∧ e 2 = true ∧ e 3 = true ∧ e 4 = true ∧ e 5 = true ∧ True from hdn 6 r6); exact r5
    have h8 : e 8 = false := fls he fun q => by obtain ⟨r7, -, -, -, -, -, -, -, -, -⟩ := (show e 7 = true ∧ e 5 = true ∧ e 5 = true ∧ e 0 = true ∧ e 1 = true ∧ e 2 = true ∧ e 3 = true ∧ e 4 = true ∧ e 5 = true ∧ True from hdn 8 q); obtain ⟨r6, -, -, -, -, -, -, -⟩ := (show e 6 = true ∧ e 0 = true ∧ e 1 = true ∧ e 2 = true ∧ e 3 = true ∧ e 4 = true ∧ e 5 = true ∧ True from hdn 7 r7); obtain ⟨-, -, -, -, -, -, -, r5, -⟩ := (show e 1 = true ∧ e 2 = true ∧ e 0 = true ∧ e 1 = true ∧ e 2 = true ∧ e 3 = true ∧ e 4 = true ∧ e 5 = true ∧ True from hdn 6 r6); exact r5
    simp only [setE, h3, h4, he, h6, h7, h8, cj_t, cj_f, cjn_t, cjn_f, cb_t, cb_f]
    refine CM (cargs := [inRow ((l.getD i default).kids)]) [] [(0, 5)] en61 (by exact ⟨(V rfl), Z⟩) (clone_ct ((l.getD i default).kids) (by omega)) (by exact Z) rfl (freshN_cons (fresh_mk ⟨(noId_cj rfl), (noId_cj rfl), (noId_cj rfl), rfl, rfl, rfl, rfl, rfl, rfl, rfl, rfl, rfl, rfl, rfl, rfl, Z⟩ rfl rfl) rfl rfl) rfl rfl <| Nt <| We ?_ ?_
    ·exact ⟨V rfl, V rfl, V rfl, V rfl, V rfl, V rfl, Vj, Vj, V rfl, V rfl, V rfl, V rfl, V rfl, V rfl, V rfl, Z⟩
    ·exact ⟨⟨_, rfl, ⟨rfl, rfl, (An rfl)⟩⟩, ⟨_, rfl, ⟨rfl, rfl, (An rfl)⟩⟩, ⟨_, rfl, rfl⟩, ⟨_, rfl, ⟨rfl, rfl, (An rfl)⟩⟩, ⟨_, rfl, rfl⟩, Z⟩
   ·intro e hdn he hdp
    obtain ⟨h1, h2, h0, -, -, h3, h4, h5, -⟩ := (show e 1 = true ∧ e 2 = true ∧ e 0 = true ∧ e 1 = true ∧ e 2 = true ∧ e 3 = true ∧ e 4 = true ∧ e 5 = true ∧ True from hdp)
    have h8 : e 8 = false := fls he fun q => by obtain ⟨r7, -, -, -, -, -, -, -, -, -⟩ := (show e 7 = true ∧ e 5 = true ∧ e 5 = true ∧ e 0 = true ∧ e 1 = true ∧ e 2 = true ∧ e 3 = true ∧ e 4 = true ∧ e 5 = true ∧ True from hdn 8 q); obtain ⟨r6, -, -, -, -, -, -, -⟩ := (show e 6 = true ∧ e 0 = true ∧ e 1 = true ∧ e 2 = true ∧ e 3 = true ∧ e 4 = true ∧ e 5 = true ∧ True from hdn 7 r7); exact r6
    simp only [setE, h0, h1, h2, h3, h4, h5, he, h8, cj_t, cj_f, cjn_t, cjn_f, cb_t, cb_f]
    refine U (IUn (i := i) (V rfl) rfl (V rfl) ts22 te22 (by omega)) <| Nt <| We ?_ ?_
    ·exact ⟨V rfl, V rfl, V rfl, V rfl, V rfl, V rfl, V rfl, V rfl, V rfl, V rfl, V rfl, V rfl, V rfl, V rfl, V rfl, Z⟩
    ·exact ⟨⟨_, rfl, ⟨rfl, rfl, (An rfl)⟩⟩, ⟨_, rfl, ⟨rfl, rfl, (An rfl)⟩⟩, ⟨_, rfl, rfl⟩, ⟨_, rfl, ⟨rfl, rfl, (An rfl)⟩⟩, ⟨_, rfl, rfl⟩, Z⟩
   ·intro e hdn he hdp
    obtain ⟨h6, h0, h1, h2, h3, h4, h5, -⟩ := (show e 6 = true ∧ e 0 = true ∧ e 1 = true ∧ e 2 = true ∧ e 3 = true ∧ e 4 = true ∧ e 5 = true ∧ True from hdp)
    have h8 : e 8 = false := fls he fun q => by obtain ⟨r7, -, -, -, -, -, -, -, -, -⟩ := (show e 7 = true ∧ e 5 = true ∧ e 5 = true ∧ e 0 = true ∧ e 1 = true ∧ e 2 = true ∧ e 3 = true ∧ e 4 = true ∧ e 5 = true ∧ True from hdn 8 q); exact r7
    simp only [setE, h0, h1, h2, h3, h4, h5, h6, he, h8, cj_t, cj_f, cjn_t, cjn_f, cb_t, cb_f]
    refine U (FlO _ _ (V rfl) Un61 rfl 0 Sz33) <| Nt <| We ?_ ?_
    ·exact ⟨V rfl, V rfl, V rfl, V rfl, V rfl, V rfl, V rfl, V rfl, V rfl, V rfl, V rfl, V rfl, V rfl, V rfl, V rfl, Z⟩
    ·exact ⟨⟨_, rfl, ⟨rfl, rfl, (An rfl)⟩⟩, ⟨_, rfl, ⟨rfl, rfl, (An rfl)⟩⟩, ⟨_, rfl, rfl⟩, ⟨_, rfl, ⟨rfl, rfl, (An rfl)⟩⟩, ⟨_, rfl, rfl⟩, Z⟩
   ·intro e hdn he hdp
    obtain ⟨h7, h5, -, h0, h1, h2, h3, h4, -, -⟩ := (show e 7 = true ∧ e 5 = true ∧ e 5 = true ∧ e 0 = true ∧ e 1 = true ∧ e 2 = true ∧ e 3 = true ∧ e 4 = true ∧ e 5 = true ∧ True from hdp)
    obtain ⟨h6, -, -, -, -, -, -, -⟩ := (show e 6 = true ∧ e 0 = true ∧ e 1 = true ∧ e 2 = true ∧ e 3 = true ∧ e 4 = true ∧ e 5 = true ∧ True from hdn 7 h7)
    simp only [setE, h0, h1, h2, h3, h4, h5, h6, h7, he, cj_t, cj_f, cjn_t, cjn_f, cb_t, cb_f]
    refine t_stH (V rfl) rfl (V rfl) (one_own rfl) Sz33 (by decide) (.inr ⟨rfl, by omega⟩) <| Nt <| We ?_ ?_
    ·exact ⟨V rfl, V rfl, V rfl, V rfl, V rfl, V rfl, V rfl, V rfl, V rfl, V rfl, V rfl, V rfl, V rfl, V rfl, V rfl, Z⟩
    ·exact ⟨⟨_, rfl, ⟨rfl, rfl, (An rfl)⟩⟩, ⟨_, rfl, ⟨rfl, rfl, (An rfl)⟩⟩, ⟨_, rfl, rfl⟩, ⟨_, rfl, ⟨rfl, rfl, (An rfl)⟩⟩, ⟨_, rfl, rfl⟩, Z⟩
   ·intro e he
    have h0 := he 0 (by decide)
    have h1 := he 1 (by decide)
    have h2 := he 2 (by decide)
    have h3 := he 3 (by decide)
    have h4 := he 4 (by decide)
    have h5 := he 5 (by decide)
    have h6 := he 6 (by decide)
    have h7 := he 7 (by decide)
    have h8 := he 8 (by decide)
    show Weak _ ⟨[(17, cj (e 0) (SV.bp 1 0)), (18, cj (e 1) (SV.own 3)), (19, cj (e 2) (iv ((i : Int)))), (20, cj (e 3) (SV.bp 4 5)), (21, cj (e 4) (inRow ((l.getD i default).kids))), (22, cj (e 5) (SV.own 5)), (23, cj (e 6) (SV.oe 3 8 i 0)), (24, cj (e 7) (SV.oe 3 8 i 5)), (1, SV.bp 1 0), (2, SV.bp 2 0), (3, iv ((i : Int))), (4, SV.bp 4 0), (10, SV.own 3), (11, iv ((l.length : Int))), (12, iv ((i : Int)))], (cb (e 5) (cb (e 8) [(1, Own.box 1 (upd (stG l) 0 (SV.own 3)) 24), (2, Own.box 1 (cmpG [SV.v (Value.slice none 0 0)]) 24), (3, urowOf ndCell 8 default l 61 5 Nd.kids inCell 1 0 3 i (some (i, SV.own 5))), (4, Own.box 8 (fun zi => ([bv ((l.getD i default).used), iv ((l.getD i default).uses), iv ((l.getD i default).tag), iv ((l.getD i default).mark), iv ((l.getD i default).par), inRow ((l.getD i default).kids), iv ((l.getD i default).host), bv ((l.getD i default).closed)] : List SV).getD zi .junk) 61), (5, ownOf inCell 1 0 ((l.getD i default).kids) 3)] [(1, Own.box 1 (upd (stG l) 0 (SV.own 3)) 24), (2, Own.box 1 (cmpG [SV.v (Value.slice none 0 0)]) 24), (3, urowOf ndCell 8 default l 61 5 Nd.kids inCell 1 0 3 i none), (4, Own.box 8 (fun zi => ([bv ((l.getD i default).used), iv ((l.getD i default).uses), iv ((l.getD i default).tag), iv ((l.getD i default).mark), iv ((l.getD i default).par), inRow ((l.getD i default).kids), iv ((l.getD i default).host), bv ((l.getD i default).closed)] : List SV).getD zi .junk) 61), (5, ownOf inCell 1 0 ((l.getD i default).kids) 3)]) (cb (e 8) [] [(1, Own.box 1 (upd (stG l) 0 (SV.own 3)) 24), (2, Own.box 1 (cmpG [SV.v (Value.slice none 0 0)]) 24), (3, urowOf ndCell 8 default l 61 5 Nd.kids inCell 1 0 3 i none), (4, Own.box 8 (fun zi => ([bv ((l.getD i default).used), iv ((l.getD i default).uses), iv ((l.getD i default).tag), iv ((l.getD i default).mark), iv ((l.getD i default).par), inRow ((l.getD i default).kids), iv ((l.getD i default).host), bv ((l.getD i default).closed)] : List SV).getD zi .junk) 61)]))⟩ _
    simp only [h0, h1, h2, h3, h4, h5, h6, h7, h8]
    show Weak _ ⟨[(17, SV.bp 1 0), (18, SV.own 3), (19, iv ((i : Int))), (20, SV.bp 4 5), (21, inRow ((l.getD i default).kids)), (22, SV.own 5), (23, SV.oe 3 8 i 0), (24, SV.oe 3 8 i 5), (1, SV.bp 1 0), (2, SV.bp 2 0), (3, iv ((i : Int))), (4, SV.bp 4 0), (10, SV.own 3), (11, iv ((l.length : Int))), (12, iv ((i : Int)))], [(1, Own.box 1 (upd (stG l) 0 (SV.own 3)) 24), (2, Own.box 1 (cmpG [SV.v (Value.slice none 0 0)]) 24), (3, urowOf ndCell 8 default l 61 5 Nd.kids inCell 1 0 3 i (some (i, SV.own 5))), (4, Own.box 8 (fun zi => ([bv ((l.getD i default).used), iv ((l.getD i default).uses), iv ((l.getD i default).tag), iv ((l.getD i default).mark), iv ((l.getD i default).par), inRow ((l.getD i default).kids), iv ((l.getD i default).host), bv ((l.getD i default).closed)] : List SV).getD zi .junk) 61), (5, ownOf inCell 1 0 ((l.getD i default).kids) 3)]⟩ _
    refine We ?_ ?_
    ·exact ⟨V rfl, V rfl, V rfl, V rfl, V rfl, V rfl, V rfl, V rfl, V rfl, V rfl, V rfl, V rfl, V rfl, V rfl, V rfl, Z⟩
    ·exact ⟨⟨_, rfl, ⟨rfl, rfl, (An rfl)⟩⟩, ⟨_, rfl, ⟨rfl, rfl, (An rfl)⟩⟩, ⟨_, rfl, rfl⟩, ⟨_, rfl, ⟨rfl, rfl, (An rfl)⟩⟩, ⟨_, rfl, rfl⟩, Z⟩
   refine Rq <| O (Ad (V rfl) K (by omega)) <| O (Mv (V rfl)) <| Nq <| Tk (turn_joinT 3 i 5 (i + 1) ({ (l.getD i default) with kids := (l.getD i default).kids }) rfl rfl rfl (by first | omega | (simp; omega)) (by omega) (by rw [if_neg (by omega)]) rfl rfl (fun t ht hne => match t, ht, hne with | 0, _, _ => rfl | 1, _, _ => rfl | 2, _, _ => rfl | 3, _, _ => rfl | 4, _, _ => rfl | 5, _, hne => absurd rfl hne | 6, _, _ => rfl | 7, _, _ => rfl) rfl) <| k_uE 3 l ((i + 1)) rfl (by exact set_kids (by omega)) (by first | rfl | omega) <| Nx (i + 1) (by show (i + 1) ≤ l.length; first | omega | (simp; done) | (refine ⟨?_, ?_⟩ <;> first | omega | (simp; done))) (by show l.length - (i + 1) < l.length - i; omega) (We (ow := [(1, Own.box 1 (upd (stG l) 0 (SV.own 3)) 24), (2, Own.box 1 (cmpG [SV.v (Value.slice none 0 0)]) 24), (3, urowOf ndCell 8 default l 61 5 Nd.kids inCell 1 0 3 ((i + 1)) none)]) (Vs rfl) (by exact ⟨⟨_, rfl, rfl, rfl, (An rfl)⟩, ⟨_, rfl, rfl, rfl, (An rfl)⟩, ⟨_, rfl, rfl⟩, Z⟩))
  ·have hc1s := hc1; try simp only [BL] at hc1s
   exact Ex <| Sq <| Rt <| U (LBA (V rfl) rfl Ga24 Sz24 (by decide)) <| StA (V rfl) rfl (V rfl) Sz24 <| Nt <| c_mv 3 0 rfl rfl <| c_uE 0 l l.length rfl (by rfl) (by first | rfl | omega) <| Rx <| RM1 rfl (rv_aggI (g' := cmpG [SV.own 0]) (rv_cell (V rfl) rfl Ga24 Sz24) ⟨Z, Ir⟩) (by exact ⟨⟨_, rfl, rfl⟩, Z⟩) (by show SV.agg 1 (cmpG [SV.own 0]) = SV.agg 1 (cmpG [SV.own 0]); rfl)
end Go.Proofs.Ytmcdamcedemdiaa
namespace Go.Proofs.Ytmcdamcedemdiaa
open Go.RowKit Go.Eng
theorem both_ct (l : List Nd) (hs : List Hd) (hb : ∀ n ∈ l, n.kids.length ≤ 17592186043904) : Ct Try.prog 125 [SV.agg 1 (stG l), hdRow hs] (iv (firstSt l hs)) := by
 refine CtO 27 Try.func125 rfl rfl rfl fun E => row_lenA 0 (V (s := 0) rfl) rfl rfl fun hl0_0 => Rl (V (s := 1) rfl) fun hl1 => Sq <| Rt <| BxA 1 (V rfl) rfl rfl <| U (As K) <| Nt <| Sq <| Sq <| Rq <| O (LBA (V rfl) rfl Ga24 Sz24 (by decide)) <| CQ en44 (by exact ⟨⟨(Vi (g' := stG l) (V rfl) ⟨Z, Ir⟩), rfl⟩, Z⟩) (stcheck_ct l (by first | assumption | exact kb_nil | exact kb_of (by assumption))) <| O (As (V rfl)) <| Nq <| Sq <| Rq <| O (Mv (V rfl)) <| O (Qn (V rfl) K) <| Nq <| Cd (V rfl) (fun hc1 => ?_) (fun hc1 => ?_)
 ·have hc1s := hc1; try simp only [BL] at hc1s
  exact Sq <| Rq <| O (Mv (V rfl)) <| O (As (V rfl)) <| Nq <| Rx <| R1 rfl (V rfl) rfl (by show iv (checkSt l) = iv (firstSt l hs); rw [first_chk hc1s])
 ·have hc1s := hc1; try simp only [BL] at hc1s
  refine Sk <| Sq <| Sq <| Rq <| O (Mv (V rfl)) <| O (Ln (V rfl) ts80) <| O (Mv K) <| Nq <| Bo <| Lo (fun (i : Nat) => ⟨[(2, SV.bp 1 0), (14, hdRow hs), (15, iv ((hs.length : Int))), (16, iv ((i : Int)))], [(1, Own.box 1 (stG l) 24)]⟩) (fun (i : Nat) => i ≤ hs.length ∧ (hs.take i).foldl (stepH l) (checkSt l) = 0) (fun (i : Nat) => hs.length - i) 0 (by show 0 ≤ hs.length ∧ (hs.take 0).foldl (stepH l) (checkSt l) = 0; exact ⟨Nat.zero_le _, hc1s⟩) (We (ow := [(1, Own.box 1 (stG l) 24)]) (Vs rfl) (by exact ⟨⟨_, rfl, rfl, rfl, (An rfl)⟩, Z⟩)) <| ?_
  ·rintro i hI1
   have hJ1 : i ≤ hs.length ∧ (hs.take i).foldl (stepH l) (checkSt l) = 0 := hI1
   refine Sq <| Rq <| O (Lt (V rfl) (V rfl)) <| Nq <| Sq <| Cd (V rfl) (fun hc2 => ?_) (fun hc2 => ?_)
   ·have hc2s := hc2; try simp only [BL] at hc2s
    refine Sk <| Sq <| Bo <| Sq <| Rt <| U (IxN (i := i) (V rfl) (V rfl) ts80 te80 (by omega)) <| U (LdA (V rfl) Ga26 Sz26 (by decide)) <| Al 2 zero26 rfl rfl <| StA (V rfl) rfl (V rfl) Sz26 <| Nt <| Sq <| Rq <| O (LBA (V rfl) rfl Ga24 Sz24 (by decide)) <| O (LBA (V rfl) rfl Ga26 Sz26 (by decide)) <| CQ en45 (by exact ⟨⟨(Vi (g' := stG l) (V rfl) ⟨Z, Ir⟩), rfl⟩, ⟨(Vi (g' := hdCell ⟨(hs.getD i default).pl, (hs.getD i default).use⟩) (V rfl) ⟨⟨Z, Ir⟩, Ir⟩), rfl⟩, Z⟩) (holds_ct l (hs.getD i default)) <| O (As (V rfl)) <| Nq <| Sq <| Rq <| O (Mv (V rfl)) <| O (Qn (V rfl) K) <| Nq <| Cd (V rfl) (fun hc3 => ?_) (fun hc3 => ?_)
    ·have hc3s := hc3; try simp only [BL] at hc3s
     exact Sq <| Rq <| O (Mv (V rfl)) <| O (As (V rfl)) <| Nq <| Rx <| R1 rfl (V rfl) rfl (by show iv (holdsSt l (hs.getD i default)) = iv (firstSt l hs); rw [first_bad (by omega) hJ1.2 hc3s])
    ·have hc3s := hc3; try simp only [BL] at hc3s
     exact Sk <| Rq <| O (Ad (V rfl) K (by omega)) <| O (Mv (V rfl)) <| Nq <| Nx (i + 1) (by show (i + 1) ≤ hs.length ∧ (hs.take (i + 1)).foldl (stepH l) (checkSt l) = 0; exact ⟨by omega, by rw [foldl_take_s _ _ default _ _ (by omega), hJ1.2, stepH, if_pos rfl]; exact hc3s⟩) (by show hs.length - (i + 1) < hs.length - i; omega) (We (ow := [(1, Own.box 1 (stG l) 24)]) (Vs rfl) (by exact ⟨⟨_, rfl, rfl, rfl, (An rfl)⟩, Z⟩))
   ·have hc2s := hc2; try simp only [BL] at hc2s
    exact Ex <| Sq <| Rq <| O (As K) <| Nq <| Rx <| R1 rfl (V rfl) rfl (by show iv (0) = iv (firstSt l hs); exact congrArg iv (by rw [firstSt, ← List.take_of_length_le (show hs.length ≤ i by omega), hJ1.2]))
theorem under_ct (l : List Nd) (k top : Int) (hc : checkSt l = 0) (hk : -1 ≤ k ∧ k < (l.length : Int)) : Ct Try.prog 126 [SV.agg 1 (stG l), iv (k), iv (top)] (bv (underB l k top)) := by
 have h24 := checkSt_len hc
 refine CtO 18 Try.func126 rfl rfl rfl fun E => row_lenA 0 (V (s := 0) rfl) rfl rfl fun hl0_0 => Sq <| Rt <| BxA 1 (V rfl) rfl rfl <| U (As K) <| Nt <| Sq <| Bo <| Lo (fun (m : Nat) => ⟨[(1, iv (upN l m k)), (2, iv (top)), (3, SV.bp 1 0)], [(1, Own.box 1 (stG l) 24)]⟩) (fun (m : Nat) => m ≤ l.length ∧ ∀ q, q < m → ¬ upN l q k = top) (fun (m : Nat) => l.length - m) 0 (by show 0 ≤ l.length ∧ ∀ q, q < 0 → ¬ upN l q k = top; exact ⟨Nat.zero_le _, fun q hq => absurd hq (Nat.not_lt_zero q)⟩) (We (ow := [(1, Own.box 1 (stG l) 24)]) (Vs rfl) (by exact ⟨⟨_, rfl, rfl, rfl, (An rfl)⟩, Z⟩)) <| ?_
 ·rintro m hI1
  have hJ1 : m ≤ l.length ∧ ∀ q, q < m → ¬ upN l q k = top := hI1
  have hui := upN_in (checkSt_nodes hc) hk m
  refine Sq <| Sq <| Rq <| O (Mv (V rfl)) <| O (Ge (V rfl) K) <| Nq <| Cd (V rfl) (fun hc1 => ?_) (fun hc1 => ?_)
  ·have hc1s := hc1; try simp only [BL] at hc1s
   have hml := up_lt hc hk (m := m) (by omega)
   refine Sk <| Sq <| Bo <| Sq <| Rq <| O (Mv (V rfl)) <| O (Mv (V rfl)) <| O (Ql (V rfl) (V rfl)) <| Nq <| Cd (V rfl) (fun hc2 => ?_) (fun hc2 => ?_)
   ·have hc2s := hc2; try simp only [BL] at hc2s
    exact Sq <| Rq <| O (As K) <| Nq <| Rx <| R1 rfl (V rfl) rfl (by show bv (true) = bv (underB l k top); rw [under_yes hJ1.1 (by omega) hc2s])
   ·have hc2s := hc2; try simp only [BL] at hc2s
    exact Sk <| Rq <| O (FlB _ _ (V rfl) Un24 rfl 0 Sz22) <| O (LdB (V rfl) rfl Ga22 (by decide)) <| O (Mv (V rfl)) <| O (Ix (V rfl) (V rfl) ts22 te22 (by omega) (by omega)) <| O (LdA (V rfl) Ga61 Sz61 (by decide)) <| CQ en110 (by exact ⟨⟨(Vi (g' := ndCell ⟨(l.getD (Int.toNat (upN l m k)) default).used, (l.getD (Int.toNat (upN l m k)) default).uses, (l.getD (Int.toNat (upN l m k)) default).tag, (l.getD (Int.toNat (upN l m k)) default).mark, (l.getD (Int.toNat (upN l m k)) default).par, (l.getD (Int.toNat (upN l m k)) default).kids, (l.getD (Int.toNat (upN l m k)) default).host, (l.getD (Int.toNat (upN l m k)) default).closed⟩) (V rfl) ⟨⟨⟨⟨⟨⟨⟨⟨Z, Ir⟩, Ir⟩, Ir⟩, Ir⟩, Ir⟩, Ir⟩, Ir⟩, Ir⟩), rfl⟩, Z⟩) (above_ct (l.getD (Int.toNat (upN l m k)) default)) <| O (As (V rfl)) <| Nq <| Nx (m + 1) (by show (m + 1) ≤ l.length ∧ ∀ q, q < (m + 1) → ¬ upN l q k = top; exact ⟨by omega, all_s (p := fun q => ¬ upN l q k = top) hJ1.2 hc2s⟩) (by show l.length - (m + 1) < l.length - m; omega) (We (sl := [(1, iv (upN l ((m + 1)) k)), (2, iv (top)), (3, SV.bp 1 0)]) (ow := [(1, Own.box 1 (stG l) 24)]) (by exact ⟨val_eq (V rfl) (congrArg iv (by show above _ = up1 l (upN l m k); rw [up1, if_neg (by omega)])), V rfl, V rfl, Z⟩) (by exact ⟨⟨_, rfl, rfl, rfl, (An rfl)⟩, Z⟩))
  ·have hc1s := hc1; try simp only [BL] at hc1s
   exact Ex <| Sq <| Rq <| O (As K) <| Nq <| Rx <| R1 rfl (V rfl) rfl (by show bv (false) = bv (underB l k top); rw [under_no (m := m) (by omega) hJ1.2])
end Go.Proofs.Ytmcdamcedemdiaa
namespace Go.Proofs.Ytmcdamcedemdiaa
open Go.RowKit Go.Eng
theorem index_ct (l : List Int) (v : Int) : Ct Try.prog 62 [inRow l, iv (v)] (iv (idxI l v)) := by
 refine CtO 19 Try.func62 rfl rfl rfl fun E => Rl (V (s := 0) rfl) fun hl0 => Sq <| Rq <| O (As K) <| Nq <| Sq <| Sq <| Rq <| O (Mv (V rfl)) <| O (Ln (V rfl) ts33) <| O (Mv K) <| Nq <| Bo <| Lo (fun (i : Nat) => ⟨[(0, inRow l), (1, iv (v)), (7, iv ((l.length : Int))), (8, iv ((i : Int)))], []⟩) (fun (i : Nat) => i ≤ l.length ∧ ∀ j, j < i → (fun y => decide (v = y)) (l.getD j 0) = false) (fun (i : Nat) => l.length - i) 0 (by show 0 ≤ l.length ∧ ∀ j, j < 0 → (fun y => decide (v = y)) (l.getD j 0) = false; exact ⟨Nat.zero_le _, fun j hj => absurd hj (Nat.not_lt_zero _)⟩) (We (Vs rfl) Z) <| ?_
 ·rintro i hI1
  have hJ1 : i ≤ l.length ∧ ∀ j, j < i → (fun y => decide (v = y)) (l.getD j 0) = false := hI1
  have hi1 := hJ1.1
  have hall := hJ1.2
  refine Sq <| Rq <| O (Lt (V rfl) (V rfl)) <| Nq <| Sq <| Cd (V rfl) (fun hc1 => ?_) (fun hc1 => ?_)
  ·have hc1s := hc1; try simp only [BL] at hc1s
   refine Sk <| Sq <| Bo <| Sq <| Rq <| O (Mv (V rfl)) <| O (As (V rfl)) <| Nq <| Sq <| Rq <| O (Mv (V rfl)) <| O (Mv (V rfl)) <| O (Mv (V rfl)) <| O (IxN (i := i) (V rfl) (V rfl) ts33 te33 (by clear hall hJ1 hI1; omega)) <| O (Ld (V rfl) Ga3 (by decide)) <| O (Ql (V rfl) (V rfl)) <| Nq <| Cd (V rfl) (fun hc2 => ?_) (fun hc2 => ?_)
   ·have hc2s := hc2; try simp only [BL] at hc2s
    exact Sq <| Rq <| O (Mv (V rfl)) <| O (As (V rfl)) <| Nq <| Rx <| R1 rfl (V rfl) rfl (by show iv ((i : Int)) = iv (idxI l v); rw [idxI, idxF_hit (p := fun y => decide (v = y)) 0 (by clear hall hJ1 hI1; omega) hall hc2])
   ·have hc2s := hc2; try simp only [BL] at hc2s
    exact Sk <| Rq <| O (Ad (V rfl) K (by clear hall hJ1 hI1; omega)) <| O (Mv (V rfl)) <| Nq <| Nx (i + 1) (by show (i + 1) ≤ l.length ∧ ∀ j, j < (i + 1) → (fun y => decide (v = y)) (l.getD j 0) = false; exact ⟨by clear hall hJ1 hI1; omega, idxF_s (p := fun y => decide (v = y)) hall hc2⟩) (by show l.length - (i + 1) < l.length - i; clear hall hJ1 hI1; omega) (We (Vs rfl) Z)
  ·have hc1s := hc1; try simp only [BL] at hc1s
   exact Ex <| Sq <| Rq <| O (As K) <| Nq <| Rx <| R1 rfl (V rfl) rfl (by show iv ((-1)) = iv (idxI l v); rw [idxI, idxF_none (p := fun y => decide (v = y)) 0 hall (by clear hall hJ1 hI1; omega)])
theorem insI_ct (l v : List Int) (i : Int) (hi : 0 ≤ i ∧ i ≤ (l.length : Int)) (hl : l.length + v.length ≤ 1000) : CtM Try.prog 98 [SV.own 1000, iv i, inRow v] [(1000, ownOf inCell 1 0 l 3)] (SV.own 0) [(0, ownOf inCell 1 0 (l.take i.toNat ++ v ++ l.drop i.toNat) 3)] := by
  have h := ins_ct l v i.toNat (by omega) hl
  rwa [show ((i.toNat : Nat) : Int) = i by omega] at h
end Go.Proofs.Ytmcdamcedemdiaa
namespace Go.Proofs.Ytmcdamcedemdiaa
open Go.RowKit Go.Eng
theorem idxI_cases (l : List Int) (v : Int) : (idxI l v = -1 ∧ ¬ v ∈ l) ∨ ∃ i : Nat, idxI l v = (i : Int) ∧ i < l.length ∧ l.getD i 0 = v ∧ ∀ j, j < i → l.getD j 0 ≠ v := by
  rcases idxF_cases (fun y => decide (v = y)) 0 l with ⟨a, b⟩ | ⟨i, a, hi, b, c⟩
  · exact .inl ⟨a, fun h => by have := b v h; simp at this⟩
  · refine .inr ⟨i, a, hi, (of_decide_eq_true b).symm, fun j hj e => ?_⟩
    have := c j hj
    rw [decide_eq_false_iff_not] at this
    exact this e.symm
theorem idxI_mem (l : List Int) (v : Int) : decide (0 ≤ idxI l v) = decide (v ∈ l) := by
  rw [Bool.eq_iff_iff, decide_eq_true_iff, decide_eq_true_iff]
  rcases idxI_cases l v with ⟨a, b⟩ | ⟨i, a, hi, b, _⟩
  · rw [a]; exact ⟨fun h => absurd h (by decide), fun h => absurd h b⟩
  · rw [a]; exact ⟨fun _ => b ▸ mem_getD hi, fun _ => Int.natCast_nonneg _⟩
theorem line_mem {l : List Nd} (h : checkSt l = 0) {k x : Int} (hk : -1 ≤ k ∧ k < (l.length : Int)) (hx : 0 ≤ x) : x ∈ line l k ↔ ∃ m, upN l m k = x := by
  have key : ∀ (d : Nat) (k : Int), -1 ≤ k ∧ k < (l.length : Int) → dpt l k = d → (x ∈ line l k ↔ ∃ m, upN l m k = x) := fun d => by
    induction d with
    | zero =>
      intro k hk hd
      have hk0 : k < 0 := Classical.byContradiction fun q => by rw [dpt_eq h (by omega)] at hd; cases hd
      rw [line_neg hk0]
      refine ⟨fun q => (by cases q), fun ⟨m, e⟩ => ?_⟩
      have := upN_neg (a := 0) (show upN l 0 k < 0 from hk0) m
      rw [Nat.zero_add] at this; omega
    | succ d ih =>
      intro k hk hd
      have hk0 : 0 ≤ k := Classical.byContradiction fun q => by unfold dpt at hd; rw [line_neg (by omega)] at hd; cases hd
      have hkr : 0 ≤ k ∧ k < (l.length : Int) := ⟨hk0, hk.2⟩
      have ha := above_in (checkSt_nodes h) hkr
      rw [dpt_eq h hkr] at hd
      have ih := ih (above (l.getD k.toNat default)) ha (by omega)
      have e1 : up1 l k = above (l.getD k.toNat default) := by rw [up1, if_neg (by omega)]
      rw [line_eq h hkr, List.mem_cons, ih]
      constructor
      · rintro (e | ⟨m, e⟩)
        · exact ⟨0, e.symm⟩
        · exact ⟨1 + m, by rw [upN_add 1 k m]; show upN l m (up1 l k) = x; rw [e1]; exact e⟩
      · rintro ⟨m, e⟩
        cases m with
        | zero => exact .inl e.symm
        | succ m => exact .inr ⟨m, by rw [Nat.add_comm, upN_add 1 k m] at e; rw [← e1]; exact e⟩
  exact key _ k hk rfl
theorem line_under {l : List Nd} (h : checkSt l = 0) {k x : Int} (hk : -1 ≤ k ∧ k < (l.length : Int)) (hx : 0 ≤ x) : decide (x ∈ line l k) = underB l k x := by
  rw [Bool.eq_iff_iff, decide_eq_true_iff, line_mem h hk hx, under_iff h hk hx]
def hd0 (ah : List Hd) : Hd := ah.getD 0 default
def insPos (ks : List Int) (ah : List Hd) : Nat := if 0 < ah.length then (idxI ks (hd0 ah).pl).toNat else ks.length
def insBad (l : List Nd) (p c : Hd) : Bool := decide (0 ≤ (l.getD c.pl.toNat default).host) || underB l p.pl c.pl
def insSt (l : List Nd) (p c : Hd) (ah : List Hd) : List Nd × Int :=
  if 1 < ah.length then ([], 3)
  else if firstSt l ([p, c] ++ ah) ≠ 0 then ([], firstSt l ([p, c] ++ ah))
  else if insBad l p c = true then ([], 6)
  else if 0 < ah.length ∧ (l.getD (hd0 ah).pl.toNat default).par ≠ p.pl then ([], 6)
  else if 0 < ah.length ∧ (hd0 ah).pl = c.pl then (l, 0)
  else (putSt (outSt l c.pl) p.pl c.pl (insPos ((outSt l c.pl).getD p.pl.toNat default).kids ah), 0)
section
variable {l : List Nd} {p c : Hd} {ah : List Hd}
theorem ins_1 (q : 1 < ah.length) : insSt l p c ah = ([], 3) := if_pos q
theorem ins_2 (q : ¬ 1 < ah.length) (q2 : ¬ firstSt l ([p, c] ++ ah) = 0) : insSt l p c ah = ([], firstSt l ([p, c] ++ ah)) := by unfold insSt; rw [if_neg q, if_pos q2]
theorem ins_3 (q : ¬ 1 < ah.length) (q2 : firstSt l ([p, c] ++ ah) = 0) (q3 : insBad l p c = true) : insSt l p c ah = ([], 6) := by unfold insSt; rw [if_neg q, if_neg (not_not_intro q2), if_pos q3]
theorem ins_4 (q : ¬ 1 < ah.length) (q2 : firstSt l ([p, c] ++ ah) = 0) (q3 : insBad l p c = false) (q4 : 0 < ah.length ∧ (l.getD (hd0 ah).pl.toNat default).par ≠ p.pl) : insSt l p c ah = ([], 6) := by
  unfold insSt; rw [if_neg q, if_neg (not_not_intro q2), if_neg (ff q3), if_pos q4]
theorem ins_5 (q : ¬ 1 < ah.length) (q2 : firstSt l ([p, c] ++ ah) = 0) (q3 : insBad l p c = false) (q4 : ¬ (0 < ah.length ∧ (l.getD (hd0 ah).pl.toNat default).par ≠ p.pl)) (q5 : 0 < ah.length ∧ (hd0 ah).pl = c.pl) : insSt l p c ah = (l, 0) := by
  unfold insSt; rw [if_neg q, if_neg (not_not_intro q2), if_neg (ff q3), if_neg q4, if_pos q5]
theorem ins_6 (q : ¬ 1 < ah.length) (q2 : firstSt l ([p, c] ++ ah) = 0) (q3 : insBad l p c = false) (q4 : ¬ (0 < ah.length ∧ (l.getD (hd0 ah).pl.toNat default).par ≠ p.pl)) (q5 : ¬ (0 < ah.length ∧ (hd0 ah).pl = c.pl)) :
    insSt l p c ah = (putSt (outSt l c.pl) p.pl c.pl (insPos ((outSt l c.pl).getD p.pl.toNat default).kids ah), 0) := by
  unfold insSt; rw [if_neg q, if_neg (not_not_intro q2), if_neg (ff q3), if_neg q4, if_neg q5]
structure InsOk (l : List Nd) (p c : Hd) (ah : List Hd) : Prop where
  ok : checkSt l = 0
  pr : 0 ≤ p.pl ∧ p.pl < (l.length : Int)
  cr : 0 ≤ c.pl ∧ c.pl < (l.length : Int)
  pu : (l.getD p.pl.toNat default).used = true
  cu : (l.getD c.pl.toNat default).used = true
  ar : 0 < ah.length → 0 ≤ (hd0 ah).pl ∧ (hd0 ah).pl < (l.length : Int)
  ph : holdsSt l p = 0
  ch : holdsSt l c = 0
  ahh : 0 < ah.length → holdsSt l (hd0 ah) = 0
theorem insOk_of (q2 : firstSt l ([p, c] ++ ah) = 0) : InsOk l p c ah := by
  obtain ⟨h1, h2⟩ := first_ok q2
  have a := h2 0 (by simp); have b := h2 1 (by simp)
  have a : holdsSt l p = 0 := a
  have b : holdsSt l c = 0 := b
  have hp := holds_in a; have hc := holds_in b
  have ha : 0 < ah.length → holdsSt l (hd0 ah) = 0 := fun h0 => by
    have d := h2 2 (by simp; omega)
    exact d
  refine ⟨h1, ⟨hp.1, hp.2.1⟩, ⟨hc.1, hc.2.1⟩, hp.2.2.2.1, hc.2.2.2.1, fun h0 => ?_, a, b, ha⟩
  have d := holds_in (ha h0)
  exact ⟨d.1, d.2.1⟩
theorem bad_f (q3 : insBad l p c = false) : (l.getD c.pl.toNat default).host < 0 ∧ underB l p.pl c.pl = false := by
  simp only [insBad, Bool.or_eq_false_iff, decide_eq_false_iff_not] at q3
  exact ⟨by omega, q3.2⟩
theorem ah_kid (K : InsOk l p c ah) (q4 : ¬ (0 < ah.length ∧ (l.getD (hd0 ah).pl.toNat default).par ≠ p.pl)) (q5 : ¬ (0 < ah.length ∧ (hd0 ah).pl = c.pl)) (h0 : 0 < ah.length) : (hd0 ah).pl ∈ ((outSt l c.pl).getD p.pl.toNat default).kids := by
  have ha := K.ar h0
  have e : (l.getD (hd0 ah).pl.toNat default).par = p.pl := Classical.byContradiction fun q => q4 ⟨h0, q⟩
  have hm := (par_kid K.ok ha (by have := K.pr; omega)).2
  rw [e] at hm
  rw [out_at K.ok K.cr K.pr]
  exact mem_cut.2 ⟨hm, fun q => q5 ⟨h0, q⟩⟩
theorem pos_le (K : InsOk l p c ah) (q4 : ¬ (0 < ah.length ∧ (l.getD (hd0 ah).pl.toNat default).par ≠ p.pl)) (q5 : ¬ (0 < ah.length ∧ (hd0 ah).pl = c.pl)) (h0 : 0 < ah.length) :
    0 ≤ idxI ((outSt l c.pl).getD p.pl.toNat default).kids (hd0 ah).pl ∧ idxI ((outSt l c.pl).getD p.pl.toNat default).kids (hd0 ah).pl < (((outSt l c.pl).getD p.pl.toNat default).kids.length : Int) := by
  rcases idxI_cases ((outSt l c.pl).getD p.pl.toNat default).kids (hd0 ah).pl with ⟨_, b⟩ | ⟨i, a, hi, _, _⟩
  · exact absurd (ah_kid K q4 q5 h0) b
  · rw [a]; omega
theorem out_ok (K : InsOk l p c ah) : checkSt (outSt l c.pl) = 0 := right_of (out_right K.ok K.cr K.cu)
end
end Go.Proofs.Ytmcdamcedemdiaa
namespace Go.Proofs.Ytmcdamcedemdiaa
open Go.RowKit Go.Eng
theorem contains_ct (l : List Int) (v : Int) : Ct Try.prog 36 [inRow l, iv (v)] (bv (decide (v ∈ l))) := by
 exact CtO 9 Try.func36 rfl rfl rfl fun E => Rl (V (s := 0) rfl) fun hl0 => Sq <| Rq <| O (As K) <| Nq <| Sq <| Rq <| O (Mv (V rfl)) <| O (Mv (V rfl)) <| CQ en62 (by exact ⟨⟨(V rfl), rfl⟩, ⟨(V rfl), rfl⟩, Z⟩) (index_ct l v) <| O (Ge (V rfl) K) <| O (As (V rfl)) <| Nq <| Rx <| R1 rfl (V rfl) rfl (by show bv (decide (0 ≤ idxI l v)) = bv (decide (v ∈ l)); exact congrArg bv (idxI_mem l v))
end Go.Proofs.Ytmcdamcedemdiaa
namespace Go.Proofs.Ytmcdamcedemdiaa
open Go.RowKit Go.Eng
theorem insert_ct (l : List Nd) (p c : Hd) (ah : List Hd) (hb : ∀ n ∈ l, n.kids.length ≤ 17592186043904) : Ct Try.prog 56 [SV.agg 1 (stG l), SV.agg 2 (hdCell p), SV.agg 2 (hdCell c), hdRow ah] (sv2 (SV.agg 1 (stG (insSt l p c ah).1)) (iv (insSt l p c ah).2)) := by
 refine CtO 124 Try.func56 rfl rfl rfl fun E => row_lenA 0 (V (s := 0) rfl) rfl rfl fun hl0_0 => Rl (V (s := 3) rfl) fun hl3 => Sq <| Rt <| BxA 1 (V rfl) rfl rfl <| BxA 2 (V rfl) rfl rfl <| BxA 3 (V rfl) rfl rfl <| Al 4 zero24 rfl rfl <| U (As K) <| Nt <| Sq <| Sq <| Rq <| O (Mv (V rfl)) <| O (Ln (V rfl) ts80) <| O (Gt (V rfl) K) <| Nq <| Cd (V rfl) (fun hc1 => ?_) (fun hc1 => ?_)
 ·have hc1s := hc1; try simp only [BL] at hc1s
  exact Sq <| Rt <| U (Bu [] id (cmpG [SV.v (Value.slice none 0 0)]) zero24 build24 (by exact Z) (by decide) ⟨Z, rfl⟩) <| StA (V rfl) rfl (V rfl) Sz24 <| U (As K) <| Nt <| Rx <| RR2 rfl (rv_aggI (g' := stG ([])) (rv_cell (V rfl) rfl Ga24 Sz24) ⟨Z, In⟩) (rv_tmp (V rfl)) rfl rfl (by show sv2 (SV.agg 1 (stG ([]))) (iv (3)) = sv2 (SV.agg 1 (stG (insSt l p c ah).1)) (iv (insSt l p c ah).2); rw [ins_1 (by omega)])
 ·have hc1s := hc1; try simp only [BL] at hc1s
  refine Sk <| Sq <| Sq <| c_rd (fun e => ⟨[(18, cj (e 0) (SV.agg 1 (fun zi => (stG l) (0 + zi)))), (19, cj (e 1) (SV.agg 2 (fun zi => (hdCell p) (0 + zi)))), (20, cj (e 2) (SV.agg 2 (fun zi => (hdCell c) (0 + zi)))), (21, cj (e 3) (cjn (e 5) (SV.own 5))), (22, cj (e 4) (hdRow ah)), (23, cj (e 5) (SV.own 6)), (24, cj (e 6) (iv (firstSt l (([⟨p.pl, p.use⟩, ⟨c.pl, c.use⟩]) ++ ah)))), (10, cj (e 7) (iv (firstSt l (([⟨p.pl, p.use⟩, ⟨c.pl, c.use⟩]) ++ ah)))), (3, hdRow ah), (4, SV.bp 1 0), (5, SV.bp 2 0), (6, SV.bp 3 0), (8, SV.bp 4 0)], (cb (e 3) (cb (e 5) [(1, Own.box 1 (stG l) 24), (2, Own.box 2 (hdCell p) 26), (3, Own.box 2 (hdCell c) 26), (4, Own.box 1 (cmpG [SV.v (Value.slice none 0 0)]) 24), (6, ownOf hdCell 2 default (([⟨p.pl, p.use⟩, ⟨c.pl, c.use⟩]) ++ ah) 26)] [(1, Own.box 1 (stG l) 24), (2, Own.box 2 (hdCell p) 26), (3, Own.box 2 (hdCell c) 26), (4, Own.box 1 (cmpG [SV.v (Value.slice none 0 0)]) 24), (5, ownOf hdCell 2 default ([⟨p.pl, p.use⟩, ⟨c.pl, c.use⟩]) 26)]) (cb (e 5) [] [(1, Own.box 1 (stG l) 24), (2, Own.box 2 (hdCell p) 26), (3, Own.box 2 (hdCell c) 26), (4, Own.box 1 (cmpG [SV.v (Value.slice none 0 0)]) 24)]))⟩) ⟨[(18, SV.agg 1 (fun zi => (stG l) (0 + zi))), (19, SV.agg 2 (fun zi => (hdCell p) (0 + zi))), (20, SV.agg 2 (fun zi => (hdCell c) (0 + zi))), (22, hdRow ah), (23, SV.own 6), (24, iv (firstSt l (([⟨p.pl, p.use⟩, ⟨c.pl, c.use⟩]) ++ ah))), (10, iv (firstSt l (([⟨p.pl, p.use⟩, ⟨c.pl, c.use⟩]) ++ ah))), (3, hdRow ah), (4, SV.bp 1 0), (5, SV.bp 2 0), (6, SV.bp 3 0), (8, SV.bp 4 0)], [(1, Own.box 1 (stG l) 24), (2, Own.box 2 (hdCell p) 26), (3, Own.box 2 (hdCell c) 26), (4, Own.box 1 (cmpG [SV.v (Value.slice none 0 0)]) 24), (6, ownOf hdCell 2 default (([⟨p.pl, p.use⟩, ⟨c.pl, c.use⟩]) ++ ah) 26)]⟩ (by kernel_rfl) (by kernel_rfl) ?_ ⟨?_, ?_, ?_, ?_, ?_, ?_, ?_, ?_, Z⟩ ?_ ?_
  ·show Weak _ _ ⟨[(18, SV.junk), (19, SV.junk), (20, SV.junk), (21, SV.junk), (22, SV.junk), (23, SV.junk), (24, SV.junk), (10, SV.junk), (3, hdRow ah), (4, SV.bp 1 0), (5, SV.bp 2 0), (6, SV.bp 3 0), (8, SV.bp 4 0)], [(1, Own.box 1 (stG l) 24), (2, Own.box 2 (hdCell p) 26), (3, Own.box 2 (hdCell c) 26), (4, Own.box 1 (cmpG [SV.v (Value.slice none 0 0)]) 24)]⟩
   refine We ?_ ?_
   ·exact ⟨Vj, Vj, Vj, Vj, Vj, Vj, Vj, Vj, V rfl, V rfl, V rfl, V rfl, V rfl, Z⟩
   ·exact ⟨⟨_, rfl, ⟨rfl, rfl, (An rfl)⟩⟩, ⟨_, rfl, ⟨rfl, rfl, (An rfl)⟩⟩, ⟨_, rfl, ⟨rfl, rfl, (An rfl)⟩⟩, ⟨_, rfl, ⟨rfl, rfl, (An rfl)⟩⟩, Z⟩
  ·intro e hdn he hdp
   cases hu3 : e 3
   ·have h5 : e 5 = false := fls hu3 fun q => by obtain ⟨r3, -, -⟩ := (show e 3 = true ∧ e 4 = true ∧ True from hdn 5 q); exact r3
    simp only [setE, he, hu3, h5, cj_t, cj_f, cjn_t, cjn_f, cb_t, cb_f]
    refine U (LBA (V rfl) rfl Ga24 Sz24 (by decide)) <| Nt <| We ?_ ?_
    ·exact ⟨V rfl, V rfl, V rfl, Vj, V rfl, Vj, V rfl, V rfl, V rfl, V rfl, V rfl, V rfl, V rfl, Z⟩
    ·exact ⟨⟨_, rfl, ⟨rfl, rfl, (An rfl)⟩⟩, ⟨_, rfl, ⟨rfl, rfl, (An rfl)⟩⟩, ⟨_, rfl, ⟨rfl, rfl, (An rfl)⟩⟩, ⟨_, rfl, ⟨rfl, rfl, (An rfl)⟩⟩, Z⟩
   ·cases hu5 : e 5
    ·simp only [setE, he, hu3, hu5, cj_t, cj_f, cjn_t, cjn_f, cb_t, cb_f]
     refine U (LBA (V rfl) rfl Ga24 Sz24 (by decide)) <| Nt <| We ?_ ?_
     ·exact ⟨V rfl, V rfl, V rfl, V rfl, V rfl, Vj, V rfl, V rfl, V rfl, V rfl, V rfl, V rfl, V rfl, Z⟩
     ·exact ⟨⟨_, rfl, ⟨rfl, rfl, (An rfl)⟩⟩, ⟨_, rfl, ⟨rfl, rfl, (An rfl)⟩⟩, ⟨_, rfl, ⟨rfl, rfl, (An rfl)⟩⟩, ⟨_, rfl, ⟨rfl, rfl, (An rfl)⟩⟩, ⟨_, rfl, rfl⟩, Z⟩
    ·simp only [setE, he, hu3, hu5, cj_t, cj_f, cjn_t, cjn_f, cb_t, cb_f]
     refine U (LBA (V rfl) rfl Ga24 Sz24 (by decide)) <| Nt <| We ?_ ?_
     ·exact ⟨V rfl, V rfl, V rfl, Vj, V rfl, V rfl, V rfl, V rfl, V rfl, V rfl, V rfl, V rfl, V rfl, Z⟩
     ·exact ⟨⟨_, rfl, ⟨rfl, rfl, (An rfl)⟩⟩, ⟨_, rfl, ⟨rfl, rfl, (An rfl)⟩⟩, ⟨_, rfl, ⟨rfl, rfl, (An rfl)⟩⟩, ⟨_, rfl, ⟨rfl, rfl, (An rfl)⟩⟩, ⟨_, rfl, rfl⟩, Z⟩
  ·intro e hdn he hdp
   have h3 : e 3 = false := fls he fun q => by obtain ⟨r1, -, -⟩ := (show e 1 = true ∧ e 2 = true ∧ True from hdn 3 q); exact r1
   have h5 : e 5 = false := fls he fun q => by obtain ⟨r3, -, -⟩ := (show e 3 = true ∧ e 4 = true ∧ True from hdn 5 q); obtain ⟨r1, -, -⟩ := (show e 1 = true ∧ e 2 = true ∧ True from hdn 3 r3); exact r1
   simp only [setE, he, h3, h5, cj_t, cj_f, cjn_t, cjn_f, cb_t, cb_f]
   refine U (LBA (V rfl) rfl Ga26 Sz26 (by decide)) <| Nt <| We ?_ ?_
   ·exact ⟨V rfl, V rfl, V rfl, Vj, V rfl, Vj, V rfl, V rfl, V rfl, V rfl, V rfl, V rfl, V rfl, Z⟩
   ·exact ⟨⟨_, rfl, ⟨rfl, rfl, (An rfl)⟩⟩, ⟨_, rfl, ⟨rfl, rfl, (An rfl)⟩⟩, ⟨_, rfl, ⟨rfl, rfl, (An rfl)⟩⟩, ⟨_, rfl, ⟨rfl, rfl, (An rfl)⟩⟩, Z⟩
  ·intro e hdn he hdp
   have h3 : e 3 = false := fls he fun q => by obtain ⟨-, r2, -⟩ := (show e 1 = true ∧ e 2 = true ∧ True from hdn 3 q); exact r2
   have h5 : e 5 = false := fls he fun q => by obtain ⟨r3, -, -⟩ := (show e 3 = true ∧ e 4 = true ∧ True from hdn 5 q); obtain ⟨-, r2, -⟩ := (show e 1 = true ∧ e 2 = true ∧ True from hdn 3 r3); exact r2
   simp only [setE, he, h3, h5, cj_t, cj_f, cjn_t, cjn_f, cb_t, cb_f]
   refine U (LBA (V rfl) rfl Ga26 Sz26 (by decide)) <| Nt <| We ?_ ?_
   ·exact ⟨V rfl, V rfl, V rfl, Vj, V rfl, Vj, V rfl, V rfl, V rfl, V rfl, V rfl, V rfl, V rfl, Z⟩
   ·exact ⟨⟨_, rfl, ⟨rfl, rfl, (An rfl)⟩⟩, ⟨_, rfl, ⟨rfl, rfl, (An rfl)⟩⟩, ⟨_, rfl, ⟨rfl, rfl, (An rfl)⟩⟩, ⟨_, rfl, ⟨rfl, rfl, (An rfl)⟩⟩, Z⟩
  ·intro e hdn he hdp
   obtain ⟨h1, h2, -⟩ := (show e 1 = true ∧ e 2 = true ∧ True from hdp)
   have h5 : e 5 = false := fls he fun q => by obtain ⟨r3, -, -⟩ := (show e 3 = true ∧ e 4 = true ∧ True from hdn 5 q); exact r3
   simp only [setE, h1, h2, he, h5, cj_t, cj_f, cjn_t, cjn_f, cb_t, cb_f]
   refine t_bsO 5 (n := 2) (zget := cmpG [iv (0), iv (0)]) [(fun zi => (hdCell p) (0 + zi)), (fun zi => (hdCell c) (0 + zi))] (rowG hdCell default [⟨p.pl, p.use⟩, ⟨c.pl, c.use⟩]) Un80 Sz26 zero26 (by decide) (by decide) rfl (by decide) ⟨⟨rfl, .inl (V rfl), rfl⟩, ⟨rfl, .inl (V rfl), rfl⟩, Z⟩ ⟨⟨Z, ⟨⟨Z, rfl⟩, rfl⟩⟩, ⟨⟨Z, rfl⟩, rfl⟩⟩ (fresh_mk ⟨(noId_cj rfl), rfl, rfl, rfl, (noId_cj rfl), rfl, (noId_cj rfl), (noId_cj rfl), rfl, rfl, rfl, rfl, rfl, Z⟩ rfl rfl) <| Nt <| We ?_ ?_
   ·exact ⟨V rfl, V rfl, V rfl, V rfl, V rfl, Vj, V rfl, V rfl, V rfl, V rfl, V rfl, V rfl, V rfl, Z⟩
   ·exact ⟨⟨_, rfl, ⟨rfl, rfl, (An rfl)⟩⟩, ⟨_, rfl, ⟨rfl, rfl, (An rfl)⟩⟩, ⟨_, rfl, ⟨rfl, rfl, (An rfl)⟩⟩, ⟨_, rfl, ⟨rfl, rfl, (An rfl)⟩⟩, ⟨_, rfl, rfl⟩, Z⟩
  ·intro e hdn he hdp
   have h5 : e 5 = false := fls he fun q => by obtain ⟨-, r4, -⟩ := (show e 3 = true ∧ e 4 = true ∧ True from hdn 5 q); exact r4
   simp only [setE, he, h5, cj_t, cj_f, cjn_t, cjn_f, cb_t, cb_f]
   exact U (Mv (V rfl)) <| Nt <| weakS ⟨V rfl, V rfl, V rfl, V rfl, V rfl, Vj, V rfl, V rfl, V rfl, V rfl, V rfl, V rfl, V rfl, Z⟩
  ·intro e hdn he hdp
   obtain ⟨h3, h4, -⟩ := (show e 3 = true ∧ e 4 = true ∧ True from hdp)
   obtain ⟨h1, h2, -⟩ := (show e 1 = true ∧ e 2 = true ∧ True from hdn 3 h3)
   simp only [setE, h1, h2, h3, h4, he, cj_t, cj_f, cjn_t, cjn_f, cb_t, cb_f]
   refine Ap 6 (rowG hdCell default (([⟨p.pl, p.use⟩, ⟨c.pl, c.use⟩]) ++ ah)) eo80 (V rfl) rfl (V rfl) (fresh_mk ⟨(noId_cj rfl), rfl, rfl, rfl, rfl, rfl, (noId_cj rfl), (noId_cj rfl), rfl, rfl, rfl, rfl, rfl, Z⟩ rfl rfl) (len_app ([⟨p.pl, p.use⟩, ⟨c.pl, c.use⟩]) ah) (by first | (simp only [maxLen, List.length_append, List.length_set, List.length_nil, List.length_cons]; omega) | (simp only [maxLen]; omega)) (by first | (simp only [List.length_append, List.length_set, List.length_nil, List.length_cons]; omega) | (omega)) (app_typed (l := ([⟨p.pl, p.use⟩, ⟨c.pl, c.use⟩])) (m := ah)) <| Nt <| We ?_ ?_
   ·exact ⟨val_kc rfl (V rfl), V rfl, V rfl, Vj, V rfl, V rfl, val_kc rfl (V rfl), val_kc rfl (V rfl), V rfl, V rfl, V rfl, V rfl, V rfl, Z⟩
   ·exact ⟨⟨_, rfl, ⟨rfl, rfl, (An rfl)⟩⟩, ⟨_, rfl, ⟨rfl, rfl, (An rfl)⟩⟩, ⟨_, rfl, ⟨rfl, rfl, (An rfl)⟩⟩, ⟨_, rfl, ⟨rfl, rfl, (An rfl)⟩⟩, ⟨_, rfl, rfl⟩, Z⟩
  ·intro e hdn he hdp
   obtain ⟨h0, h5, -, -⟩ := (show e 0 = true ∧ e 5 = true ∧ e 5 = true ∧ True from hdp)
   obtain ⟨h3, h4, -⟩ := (show e 3 = true ∧ e 4 = true ∧ True from hdn 5 h5)
   obtain ⟨h1, h2, -⟩ := (show e 1 = true ∧ e 2 = true ∧ True from hdn 3 h3)
   simp only [setE, h0, h1, h2, h3, h4, h5, he, cj_t, cj_f, cjn_t, cjn_f, cb_t, cb_f]
   refine CTb en125 (by exact ⟨(vb_ro (Vi (g' := stG l) (V rfl) ⟨Z, Ir⟩) rfl), (vb_own (V rfl) rfl), Z⟩) (both_ct l (([⟨p.pl, p.use⟩, ⟨c.pl, c.use⟩]) ++ ah) (by first | assumption | exact kb_nil | exact kb_of (by assumption))) <| Nt <| We ?_ ?_
   ·exact ⟨V rfl, V rfl, V rfl, Vj, V rfl, V rfl, V rfl, V rfl, V rfl, V rfl, V rfl, V rfl, V rfl, Z⟩
   ·exact ⟨⟨_, rfl, ⟨rfl, rfl, (An rfl)⟩⟩, ⟨_, rfl, ⟨rfl, rfl, (An rfl)⟩⟩, ⟨_, rfl, ⟨rfl, rfl, (An rfl)⟩⟩, ⟨_, rfl, ⟨rfl, rfl, (An rfl)⟩⟩, ⟨_, rfl, rfl⟩, Z⟩
  ·intro e hdn he hdp
   obtain ⟨h6, -, h0, h1, h2, h3, h4, h5, -, -⟩ := (show e 6 = true ∧ e 6 = true ∧ e 0 = true ∧ e 1 = true ∧ e 2 = true ∧ e 3 = true ∧ e 4 = true ∧ e 5 = true ∧ e 6 = true ∧ True from hdp)
   simp only [setE, h0, h1, h2, h3, h4, h5, h6, he, cj_t, cj_f, cjn_t, cjn_f, cb_t, cb_f]
   refine U (As (V rfl)) <| Nt <| We ?_ ?_
   ·exact ⟨V rfl, V rfl, V rfl, Vj, V rfl, V rfl, V rfl, V rfl, V rfl, V rfl, V rfl, V rfl, V rfl, Z⟩
   ·exact ⟨⟨_, rfl, ⟨rfl, rfl, (An rfl)⟩⟩, ⟨_, rfl, ⟨rfl, rfl, (An rfl)⟩⟩, ⟨_, rfl, ⟨rfl, rfl, (An rfl)⟩⟩, ⟨_, rfl, ⟨rfl, rfl, (An rfl)⟩⟩, ⟨_, rfl, rfl⟩, Z⟩
  ·intro e he
   have h0 := he 0 (by decide)
   have h1 := he 1 (by decide)
   have h2 := he 2 (by decide)
   have h3 := he 3 (by decide)
   have h4 := he 4 (by decide)
   have h5 := he 5 (by decide)
   have h6 := he 6 (by decide)
   have h7 := he 7 (by decide)
   show Weak _ ⟨[(18, cj (e 0) (SV.agg 1 (fun zi => (stG l) (0 + zi)))), (19, cj (e 1) (SV.agg 2 (fun zi => (hdCell p) (0 + zi)))), (20, cj (e 2) (SV.agg 2 (fun zi => (hdCell c) (0 + zi)))), (21, cj (e 3) (cjn (e 5) (SV.own 5))), (22, cj (e 4) (hdRow ah)), (23, cj (e 5) (SV.own 6)), (24, cj (e 6) (iv (firstSt l (([⟨p.pl, p.use⟩, ⟨c.pl, c.use⟩]) ++ ah)))), (10, cj (e 7) (iv (firstSt l (([⟨p.pl, p.use⟩, ⟨c.pl, c.use⟩]) ++ ah)))), (3, hdRow ah), (4, SV.bp 1 0), (5, SV.bp 2 0), (6, SV.bp 3 0), (8, SV.bp 4 0)], (cb (e 3) (cb (e 5) [(1, Own.box 1 (stG l) 24), (2, Own.box 2 (hdCell p) 26), (3, Own.box 2 (hdCell c) 26), (4, Own.box 1 (cmpG [SV.v (Value.slice none 0 0)]) 24), (6, ownOf hdCell 2 default (([⟨p.pl, p.use⟩, ⟨c.pl, c.use⟩]) ++ ah) 26)] [(1, Own.box 1 (stG l) 24), (2, Own.box 2 (hdCell p) 26), (3, Own.box 2 (hdCell c) 26), (4, Own.box 1 (cmpG [SV.v (Value.slice none 0 0)]) 24), (5, ownOf hdCell 2 default ([⟨p.pl, p.use⟩, ⟨c.pl, c.use⟩]) 26)]) (cb (e 5) [] [(1, Own.box 1 (stG l) 24), (2, Own.box 2 (hdCell p) 26), (3, Own.box 2 (hdCell c) 26), (4, Own.box 1 (cmpG [SV.v (Value.slice none 0 0)]) 24)]))⟩ _
   simp only [h0, h1, h2, h3, h4, h5, h6, h7]
   show Weak _ ⟨[(18, SV.agg 1 (fun zi => (stG l) (0 + zi))), (19, SV.agg 2 (fun zi => (hdCell p) (0 + zi))), (20, SV.agg 2 (fun zi => (hdCell c) (0 + zi))), (21, SV.junk), (22, hdRow ah), (23, SV.own 6), (24, iv (firstSt l (([⟨p.pl, p.use⟩, ⟨c.pl, c.use⟩]) ++ ah))), (10, iv (firstSt l (([⟨p.pl, p.use⟩, ⟨c.pl, c.use⟩]) ++ ah))), (3, hdRow ah), (4, SV.bp 1 0), (5, SV.bp 2 0), (6, SV.bp 3 0), (8, SV.bp 4 0)], [(1, Own.box 1 (stG l) 24), (2, Own.box 2 (hdCell p) 26), (3, Own.box 2 (hdCell c) 26), (4, Own.box 1 (cmpG [SV.v (Value.slice none 0 0)]) 24), (6, ownOf hdCell 2 default (([⟨p.pl, p.use⟩, ⟨c.pl, c.use⟩]) ++ ah) 26)]⟩ _
   refine We ?_ ?_
   ·exact ⟨Va (V rfl) (An rfl), Va (V rfl) (An rfl), Va (V rfl) (An rfl), V rfl, V rfl, V rfl, V rfl, V rfl, V rfl, V rfl, V rfl, V rfl, Z⟩
   ·exact ⟨⟨_, rfl, ⟨rfl, rfl, (An rfl)⟩⟩, ⟨_, rfl, ⟨rfl, rfl, (An rfl)⟩⟩, ⟨_, rfl, ⟨rfl, rfl, (An rfl)⟩⟩, ⟨_, rfl, ⟨rfl, rfl, (An rfl)⟩⟩, ⟨_, rfl, rfl⟩, Z⟩
  refine Sq <| Rq <| O (Mv (V rfl)) <| O (Qn (V rfl) K) <| Nq <| Cd (V rfl) (fun hc2 => ?_) (fun hc2 => ?_)
  ·have hc2s := hc2; try simp only [BL] at hc2s
   exact Sq <| Rt <| U (Bu [] id (cmpG [SV.v (Value.slice none 0 0)]) zero24 build24 (by exact Z) (by decide) ⟨Z, rfl⟩) <| U (Mv (V rfl)) <| StA (V rfl) rfl (V rfl) Sz24 <| U (As (V rfl)) <| Nt <| Rx <| RR2 rfl (rv_aggI (g' := stG ([])) (rv_cell (V rfl) rfl Ga24 Sz24) ⟨Z, In⟩) (rv_tmp (V rfl)) rfl rfl (by show sv2 (SV.agg 1 (stG ([]))) (iv (firstSt l (([⟨p.pl, p.use⟩, ⟨c.pl, c.use⟩]) ++ ah))) = sv2 (SV.agg 1 (stG (insSt l p c ah).1)) (iv (insSt l p c ah).2); rw [ins_2 (by omega) hc2s])
  ·have hc2s := hc2; try simp only [BL] at hc2s
   have KK := insOk_of (p := p) (c := c) hc2s
   have Kp := KK.pr
   have Kc := KK.cr
   have Ka := KK.ar
   have h24 := checkSt_len KK.ok
   have hc0 := KK.ok
   have hkf : ∀ i, i < l.length → (l.getD i default).kids.length ≤ 24 := fun i hi => kids_few KK.ok hi
   refine Sk <| Sq <| Rqd (by kernel_rfl) (by kernel_rfl) <| O (FlB _ _ (V rfl) Un26 rfl 0 Sz3) <| O (LdB (V rfl) rfl Ga3 (by decide)) <| O (FlB _ _ (V rfl) Un26 rfl 0 Sz3) <| O (LdB (V rfl) rfl Ga3 (by decide)) <| O (As (V rfl)) <| O (As (V rfl)) <| Nq <| Sq <| Sq <| Rq <| O (FlB _ _ (V rfl) Un24 rfl 0 Sz22) <| O (LdB (V rfl) rfl Ga22 (by decide)) <| O (Mv (V rfl)) <| O (Ix (V rfl) (V rfl) ts22 te22 (by omega) (by first | omega | (simp only [List.length_set]; omega))) <| O (Fl _ _ (V rfl) Un61 rfl 0 Sz3) <| O (Ld (V rfl) Ga3 (by decide)) <| O (Ge (V rfl) K) <| O (Mv (V rfl)) <| Og (Gn rfl rfl) (fun hg => LBA (V rfl) rfl Ga24 Sz24 (by decide)) <| Og (Gn rfl rfl) (fun hg => Mv (V rfl)) <| Og (Gn rfl rfl) (fun hg => Mv (V rfl)) <| CQg (Gn rfl rfl) en126 (fun hg => (by exact ⟨⟨(Vi (g' := stG l) (Vg (V rfl) hg) ⟨Z, Ir⟩), rfl⟩, ⟨(Vg (V rfl) hg), rfl⟩, ⟨(Vg (V rfl) hg), rfl⟩, Z⟩)) (fun hg => under_ct l p.pl c.pl (by assumption) (by first | assumption | omega)) <| O (Qr (V rfl) (fun h => Vg (V rfl) (notT h))) <| Nq <| Cd (V rfl) (fun hc3 => ?_) (fun hc3 => ?_)
   ·have hc3s := hc3; try simp only [BL] at hc3s
    exact Sq <| Rt <| U (Bu [] id (cmpG [SV.v (Value.slice none 0 0)]) zero24 build24 (by exact Z) (by decide) ⟨Z, rfl⟩) <| StA (V rfl) rfl (V rfl) Sz24 <| U (As K) <| Nt <| Rx <| RR2 rfl (rv_aggI (g' := stG ([])) (rv_cell (V rfl) rfl Ga24 Sz24) ⟨Z, In⟩) (rv_tmp (V rfl)) rfl rfl (by show sv2 (SV.agg 1 (stG ([]))) (iv (6)) = sv2 (SV.agg 1 (stG (insSt l p c ah).1)) (iv (insSt l p c ah).2); rw [ins_3 (by omega) hc2s hc3])
   ·have hc3s := hc3; try simp only [BL] at hc3s
    have hq3 : insBad l p c = false := hc3
    have hbf := bad_f hq3
    refine Sk <| Sq <| Sq <| Rqd (by kernel_rfl) (by kernel_rfl) <| O (Mv (V rfl)) <| O (Ln (V rfl) ts80) <| O (Gt (V rfl) K) <| O (Mv (V rfl)) <| Og (Gy rfl rfl) (fun hg => FlB _ _ (V rfl) Un24 rfl 0 Sz22) <| Og (Gy rfl rfl) (fun hg => LdB (Vg (V rfl) hg) rfl Ga22 (by decide)) <| Og (Gy rfl rfl) (fun hg => Mv (V rfl)) <| Og (Gy rfl rfl) (fun hg => Ix (Vg (V rfl) hg) K ts80 te80 (by omega) (by have hq := hg; simp only [BL] at hq; omega)) <| Og (Gy rfl rfl) (fun hg => Fl _ _ (Vg (V rfl) hg) Un26 rfl 0 Sz3) <| Og (Gy rfl rfl) (fun hg => Ld (Vg (V rfl) hg) Ga3 (by decide)) <| Og (Gy rfl rfl) (fun hg => Ix (Vg (V rfl) hg) (Vg (V rfl) hg) ts22 te22 (by have hq := hg; simp only [BL] at hq; have hka : 0 ≤ (ah.getD (Int.toNat 0) default).pl ∧ (ah.getD (Int.toNat 0) default).pl < (l.length : Int) := Ka (by omega); omega) (by have hq := hg; simp only [BL] at hq; have hka : 0 ≤ (ah.getD (Int.toNat 0) default).pl ∧ (ah.getD (Int.toNat 0) default).pl < (l.length : Int) := Ka (by omega); omega)) <| Og (Gy rfl rfl) (fun hg => Fl _ _ (Vg (V rfl) hg) Un61 rfl 0 Sz3) <| Og (Gy rfl rfl) (fun hg => Ld (Vg (V rfl) hg) Ga3 (by decide)) <| Og (Gy rfl rfl) (fun hg => Mv (V rfl)) <| Og (Gy rfl rfl) (fun hg => Qn (Vg (V rfl) hg) (Vg (V rfl) hg)) <| O (Qa (V rfl) (fun h => Vg (V rfl) h)) <| Nq <| Cd (V rfl) (fun hc4 => ?_) (fun hc4 => ?_)
    ·have hc4s := hc4; try simp only [BL] at hc4s
     exact Sq <| Rt <| U (Bu [] id (cmpG [SV.v (Value.slice none 0 0)]) zero24 build24 (by exact Z) (by decide) ⟨Z, rfl⟩) <| StA (V rfl) rfl (V rfl) Sz24 <| U (As K) <| Nt <| Rx <| RR2 rfl (rv_aggI (g' := stG ([])) (rv_cell (V rfl) rfl Ga24 Sz24) ⟨Z, In⟩) (rv_tmp (V rfl)) rfl rfl (by show sv2 (SV.agg 1 (stG ([]))) (iv (6)) = sv2 (SV.agg 1 (stG (insSt l p c ah).1)) (iv (insSt l p c ah).2); rw [ins_4 (by omega) hc2s hq3 ⟨by omega, hc4s.2⟩])
    ·have hc4s := hc4; try simp only [BL] at hc4s
     have hq4 : ¬ (0 < ah.length ∧ (l.getD (hd0 ah).pl.toNat default).par ≠ p.pl) := fun q => by rw [show hd0 ah = ah.getD 0 default from rfl] at q; rcases hc4s with e | e; exact e (by omega); exact q.2 e
     refine Sk <| Sq <| Sq <| Rq <| O (Mv (V rfl)) <| O (Ln (V rfl) ts80) <| O (Gt (V rfl) K) <| O (Mv (V rfl)) <| Og (Gy rfl rfl) (fun hg => Mv (V rfl)) <| Og (Gy rfl rfl) (fun hg => Ix (Vg (V rfl) hg) K ts80 te80 (by omega) (by have hq := hg; simp only [BL] at hq; omega)) <| Og (Gy rfl rfl) (fun hg => Fl _ _ (Vg (V rfl) hg) Un26 rfl 0 Sz3) <| Og (Gy rfl rfl) (fun hg => Ld (Vg (V rfl) hg) Ga3 (by decide)) <| Og (Gy rfl rfl) (fun hg => Mv (V rfl)) <| Og (Gy rfl rfl) (fun hg => Ql (Vg (V rfl) hg) (Vg (V rfl) hg)) <| O (Qa (V rfl) (fun h => Vg (V rfl) h)) <| Nq <| Cd (V rfl) (fun hc5 => ?_) (fun hc5 => ?_)
     ·have hc5s := hc5; try simp only [BL] at hc5s
      exact Sq <| Rt <| U (LBA (V rfl) rfl Ga24 Sz24 (by decide)) <| CM (cargs := [SV.agg 1 (stG l)]) [] [(0, 7)] en115 (mv0 (by exact ⟨⟨(Vi (g' := stG l) (V rfl) ⟨Z, Ir⟩), rfl⟩, Z⟩)) (copyU_ct l (by omega) (by assumption)) (by exact Z) rfl rfl rfl rfl <| StA (V rfl) rfl (V rfl) Sz24 <| U (As K) <| Nt <| Tc (turn_uAT 7 rfl rfl (fun _ => rfl)) <| FzC 7 rfl <| Rx <| RR2 rfl (rv_aggI (g' := stG l) (rv_cell (V rfl) rfl Ga24 Sz24) ⟨Z, Ir⟩) (rv_tmp (V rfl)) rfl rfl (by show sv2 (SV.agg 1 (stG l)) (iv (0)) = sv2 (SV.agg 1 (stG (insSt l p c ah).1)) (iv (insSt l p c ah).2); rw [ins_5 (by omega) hc2s hq3 hq4 ⟨by omega, hc5s.2⟩])
     ·have hc5s := hc5; try simp only [BL] at hc5s
      have hq5 : ¬ (0 < ah.length ∧ (hd0 ah).pl = c.pl) := fun q => by rcases hc5s with e | e; exact e (by omega); exact e q.2
      have hol := out_len l c.pl
      have hko := kids_few (out_ok KK) (i := Int.toNat p.pl) (by omega)
      refine Sk <| Sq <| Rt <| U (LBA (V rfl) rfl Ga24 Sz24 (by decide)) <| CM (cargs := [SV.agg 1 (stG l)]) [] [(0, 8)] en115 (mv0 (by exact ⟨⟨(Vi (g' := stG l) (V rfl) ⟨Z, Ir⟩), rfl⟩, Z⟩)) (copyU_ct l (by omega) (by assumption)) (by exact Z) rfl rfl rfl rfl <| StA (V rfl) rfl (V rfl) Sz24 <| Nt <| Sq <| Rt <| U (Mv (V rfl)) <| CM (cargs := [SV.bp 1000 0, iv (c.pl)]) [(1000, 1), (1001, 8)] [(0, 9)] en127 (by exact ⟨(V rfl), (V rfl), Z⟩) (out_ct l c.pl (by assumption) (by assumption)) (by exact ⟨⟨_, rfl, ⟨rfl, rfl, (An rfl)⟩⟩, ⟨_, rfl, rfl⟩, Z⟩) rfl rfl rfl rfl <| Nt <| Sq <| Tc (turn_splitT 9 (Int.toNat p.pl) 10 rfl (by omega) rfl rfl) <| Rq <| O (FlB _ _ (V rfl) Un24 rfl 0 Sz22) <| O (LdB (V rfl) rfl Ga22 (by decide)) <| O (Mv (V rfl)) <| O (q_idxU (V rfl) rfl (V rfl) ts22 te22 (by omega) (by first | omega | (simp only [List.length_set]; omega))) <| O (FlO _ _ (V rfl) Un61 rfl 0 Sz33) <| O (LdU (V rfl) rfl Ga33 (by decide) uat_hole) <| O (LnO (V rfl) rfl ts33) <| O (As (V rfl)) <| Nq <| Sq <| Sq <| Rq <| O (Mv (V rfl)) <| O (Ln (V rfl) ts80) <| O (Gt (V rfl) K) <| Nq <| Cd (V rfl) (fun hc6 => ?_) (fun hc6 => ?_)
      ·have hc6s := hc6; try simp only [BL] at hc6s
       have hah : 0 < ah.length := by omega
       have hpos := pos_le KK hq4 hq5 hah
       have hposA : 0 ≤ idxI ((outSt l c.pl).getD (Int.toNat p.pl) default).kids (ah.getD 0 default).pl ∧ idxI ((outSt l c.pl).getD (Int.toNat p.pl) default).kids (ah.getD 0 default).pl < (((outSt l c.pl).getD (Int.toNat p.pl) default).kids.length : Int) := hpos
       have hpos : 0 ≤ idxI ((outSt l c.pl).getD (Int.toNat p.pl) default).kids (ah.getD (Int.toNat 0) default).pl ∧ idxI ((outSt l c.pl).getD (Int.toNat p.pl) default).kids (ah.getD (Int.toNat 0) default).pl < (((outSt l c.pl).getD (Int.toNat p.pl) default).kids.length : Int) := hpos
       refine Rqd (by kernel_rfl) (by kernel_rfl) <| O (FlB _ _ (V rfl) Un24 rfl 0 Sz22) <| O (LdB (V rfl) rfl Ga22 (by decide)) <| O (Mv (V rfl)) <| O (q_idxU (V rfl) rfl (V rfl) ts22 te22 (by omega) (by first | omega | (simp only [List.length_set]; omega))) <| O (FlO _ _ (V rfl) Un61 rfl 0 Sz33) <| O (LdU (V rfl) rfl Ga33 (by decide) uat_hole) <| O (Mv (V rfl)) <| O (Ix (V rfl) K ts80 te80 (by omega) (by first | omega | (simp only [List.length_set]; omega))) <| O (Fl _ _ (V rfl) Un26 rfl 0 Sz3) <| O (Ld (V rfl) Ga3 (by decide)) <| CQb en62 (by exact ⟨(vb_own (V rfl) rfl), (vb_ro (V rfl) rfl), Z⟩) (index_ct (Nd.kids ((outSt l c.pl).getD (Int.toNat p.pl) default)) ((ah.getD 0 default).pl)) <| O (As (V rfl)) <| Nq <| Sq <| c_rd (fun e => ⟨[(102, cj (e 0) (SV.bp 1 0)), (103, cj (e 1) (SV.own 9)), (104, cj (e 2) (iv (p.pl))), (105, cj (e 3) (SV.bp 1 0)), (106, cj (e 4) (SV.own 9)), (107, cj (e 5) (iv (p.pl))), (108, cj (e 6) (SV.oe 9 8 (Int.toNat p.pl) 0)), (109, cj (e 7) (SV.oe 9 8 (Int.toNat p.pl) 5)), (110, cj (e 8) (SV.own 10)), (111, cj (e 9) (iv (idxI (Nd.kids ((outSt l c.pl).getD (Int.toNat p.pl) default)) ((ah.getD 0 default).pl)))), (112, cj (e 10) (iv (c.pl))), (113, cj (e 11) (inRow ([c.pl]))), (114, cj (e 12) (SV.own 11)), (115, cj (e 13) (SV.oe 9 8 (Int.toNat p.pl) 0)), (116, cj (e 14) (SV.oe 9 8 (Int.toNat p.pl) 5)), (4, SV.bp 1 0), (8, SV.bp 4 0), (11, iv (p.pl)), (12, iv (c.pl)), (13, iv (idxI (Nd.kids ((outSt l c.pl).getD (Int.toNat p.pl) default)) ((ah.getD 0 default).pl)))], (cb (e 12) (cb (e 15) [(1, Own.box 1 (fun zt => SV.renm (rn [(1000, 1), (1001, 8), (0, 9)]) ((cmpG [SV.own 0]) zt)) 24), (4, Own.box 1 (cmpG [SV.v (Value.slice none 0 0)]) 24), (9, urowOf ndCell 8 default (outSt l c.pl) 61 5 Nd.kids inCell 1 0 3 l.length (some (Int.toNat p.pl, SV.own 11))), (11, ownOf inCell 1 0 ((Nd.kids ((outSt l c.pl).getD (Int.toNat p.pl) default)).take (Int.toNat (idxI (Nd.kids ((outSt l c.pl).getD (Int.toNat p.pl) default)) ((ah.getD 0 default).pl))) ++ ([c.pl]) ++ (Nd.kids ((outSt l c.pl).getD (Int.toNat p.pl) default)).drop (Int.toNat (idxI (Nd.kids ((outSt l c.pl).getD (Int.toNat p.pl) default)) ((ah.getD 0 default).pl)))) 3)] [(1, Own.box 1 (fun zt => SV.renm (rn [(1000, 1), (1001, 8), (0, 9)]) ((cmpG [SV.own 0]) zt)) 24), (4, Own.box 1 (cmpG [SV.v (Value.slice none 0 0)]) 24), (9, urowOf ndCell 8 default (outSt l c.pl) 61 5 Nd.kids inCell 1 0 3 l.length (some (Int.toNat p.pl, SV.own 10))), (11, ownOf inCell 1 0 ((Nd.kids ((outSt l c.pl).getD (Int.toNat p.pl) default)).take (Int.toNat (idxI (Nd.kids ((outSt l c.pl).getD (Int.toNat p.pl) default)) ((ah.getD 0 default).pl))) ++ ([c.pl]) ++ (Nd.kids ((outSt l c.pl).getD (Int.toNat p.pl) default)).drop (Int.toNat (idxI (Nd.kids ((outSt l c.pl).getD (Int.toNat p.pl) default)) ((ah.getD 0 default).pl)))) 3)]) (cb (e 15) [] [(1, Own.box 1 (fun zt => SV.renm (rn [(1000, 1), (1001, 8), (0, 9)]) ((cmpG [SV.own 0]) zt)) 24), (4, Own.box 1 (cmpG [SV.v (Value.slice none 0 0)]) 24), (9, urowOf ndCell 8 default (outSt l c.pl) 61 5 Nd.kids inCell 1 0 3 l.length (some (Int.toNat p.pl, SV.own 10))), (10, ownOf inCell 1 0 (Nd.kids ((outSt l c.pl).getD (Int.toNat p.pl) default)) 3)]))⟩) ⟨[(102, SV.bp 1 0), (103, SV.own 9), (104, iv (p.pl)), (105, SV.bp 1 0), (106, SV.own 9), (107, iv (p.pl)), (108, SV.oe 9 8 (Int.toNat p.pl) 0), (109, SV.oe 9 8 (Int.toNat p.pl) 5), (110, SV.own 10), (111, iv (idxI (Nd.kids ((outSt l c.pl).getD (Int.toNat p.pl) default)) ((ah.getD 0 default).pl))), (112, iv (c.pl)), (113, inRow ([c.pl])), (114, SV.own 11), (115, SV.oe 9 8 (Int.toNat p.pl) 0), (116, SV.oe 9 8 (Int.toNat p.pl) 5), (4, SV.bp 1 0), (8, SV.bp 4 0), (11, iv (p.pl)), (12, iv (c.pl)), (13, iv (idxI (Nd.kids ((outSt l c.pl).getD (Int.toNat p.pl) default)) ((ah.getD 0 default).pl)))], [(1, Own.box 1 (fun zt => SV.renm (rn [(1000, 1), (1001, 8), (0, 9)]) ((cmpG [SV.own 0]) zt)) 24), (4, Own.box 1 (cmpG [SV.v (Value.slice none 0 0)]) 24), (9, urowOf ndCell 8 default (outSt l c.pl) 61 5 Nd.kids inCell 1 0 3 l.length (some (Int.toNat p.pl, SV.own 11))), (11, ownOf inCell 1 0 ((Nd.kids ((outSt l c.pl).getD (Int.toNat p.pl) default)).take (Int.toNat (idxI (Nd.kids ((outSt l c.pl).getD (Int.toNat p.pl) default)) ((ah.getD 0 default).pl))) ++ ([c.pl]) ++ (Nd.kids ((outSt l c.pl).getD (Int.toNat p.pl) default)).drop (Int.toNat (idxI (Nd.kids ((outSt l c.pl).getD (Int.toNat p.pl) default)) ((ah.getD 0 default).pl)))) 3)]⟩ (by kernel_rfl) (by kernel_rfl) ?_ ⟨?_, ?_, ?_, ?_, ?_, ?_, ?_, ?_, ?_, ?_, ?_, ?_, ?_, ?_, ?_, ?_, Z⟩ ?_ ?_
       ·show Weak _ _ ⟨[(102, SV.junk), (103, SV.junk), (104, SV.junk), (105, SV.junk), (106, SV.junk), (107, SV.junk), (108, SV.junk), (109, SV.junk), (110, SV.junk), (111, SV.junk), (112, SV.junk), (113, SV.junk), (114, SV.junk), (115, SV.junk), (116, SV.junk), (4, SV.bp 1 0), (8, SV.bp 4 0), (11, iv (p.pl)), (12, iv (c.pl)), (13, iv (idxI (Nd.kids ((outSt l c.pl).getD (Int.toNat p.pl) default)) ((ah.getD 0 default).pl)))], [(1, Own.box 1 (fun zt => SV.renm (rn [(1000, 1), (1001, 8), (0, 9)]) ((cmpG [SV.own 0]) zt)) 24), (4, Own.box 1 (cmpG [SV.v (Value.slice none 0 0)]) 24), (9, urowOf ndCell 8 default (outSt l c.pl) 61 5 Nd.kids inCell 1 0 3 l.length (some (Int.toNat p.pl, SV.own 10))), (10, ownOf inCell 1 0 (Nd.kids ((outSt l c.pl).getD (Int.toNat p.pl) default)) 3)]⟩
        refine We ?_ ?_
        ·exact ⟨Vj, Vj, Vj, Vj, Vj, Vj, Vj, Vj, Vj, Vj, Vj, Vj, Vj, Vj, Vj, V rfl, V rfl, V rfl, V rfl, V rfl, Z⟩
        ·exact ⟨⟨_, rfl, ⟨rfl, rfl, (An rfl)⟩⟩, ⟨_, rfl, ⟨rfl, rfl, (An rfl)⟩⟩, ⟨_, rfl, rfl⟩, ⟨_, rfl, rfl⟩, Z⟩
       ·intro e hdn he hdp
        have h15 : e 15 = false := fls he fun q => by obtain ⟨r14, -, -, -, -, -, -, -, -, -, -, -, -, -, -, -, -⟩ := (show e 14 = true ∧ e 12 = true ∧ e 12 = true ∧ e 0 = true ∧ e 1 = true ∧ e 2 = true ∧ e 3 = true ∧ e 4 = true ∧ e 5 = true ∧ e 6 = true ∧ e 7 = true ∧ e 8 = true ∧ e 9 = true ∧ e 10 = true ∧ e 11 = true ∧ e 12 = true ∧ True from hdn 15 q); obtain ⟨r13, -, -, -, -, -, -, -, -, -, -, -, -, -, -⟩ := (show e 13 = true ∧ e 0 = true ∧ e 1 = true ∧ e 2 = true ∧ e 3 = true ∧ e 4 = true ∧ e 5 = true ∧ e 6 = true ∧ e 7 = true ∧ e 8 = true ∧ e 9 = true ∧ e 10 = true ∧ e 11 = true ∧ e 12 = true ∧ True from hdn 14 r14); obtain ⟨r1, -, -, -, -, -, -, -, -, -, -, -, -, -, -, -⟩ := (show e 1 = true ∧ e 2 = true ∧ e 0 = true ∧ e 1 = true ∧ e 2 = true ∧ e 3 = true ∧ e 4 = true ∧ e 5 = true ∧ e 6 = true ∧ e 7 = true ∧ e 8 = true ∧ e 9 = true ∧ e 10 = true ∧ e 11 = true ∧ e 12 = true ∧ True from hdn 13 r13); obtain ⟨r0, -⟩ := (show e 0 = true ∧ True from hdn 1 r1); exact r0
        simp only [setE, he, h15, cj_t, cj_f, cjn_t, cjn_f, cb_t, cb_f]
        exact U (FlB _ _ (V rfl) Un24 rfl 0 Sz22) <| Nt <| weakS ⟨V rfl, V rfl, V rfl, V rfl, V rfl, V rfl, V rfl, V rfl, V rfl, V rfl, V rfl, V rfl, V rfl, V rfl, V rfl, V rfl, V rfl, V rfl, V rfl, V rfl, Z⟩
       ·intro e hdn he hdp
        obtain ⟨h0, -⟩ := (show e 0 = true ∧ True from hdp)
        have h15 : e 15 = false := fls he fun q => by obtain ⟨r14, -, -, -, -, -, -, -, -, -, -, -, -, -, -, -, -⟩ := (show e 14 = true ∧ e 12 = true ∧ e 12 = true ∧ e 0 = true ∧ e 1 = true ∧ e 2 = true ∧ e 3 = true ∧ e 4 = true ∧ e 5 = true ∧ e 6 = true ∧ e 7 = true ∧ e 8 = true ∧ e 9 = true ∧ e 10 = true ∧ e 11 = true ∧ e 12 = true ∧ True from hdn 15 q); obtain ⟨r13, -, -, -, -, -, -, -, -, -, -, -, -, -, -⟩ := (show e 13 = true ∧ e 0 = true ∧ e 1 = true ∧ e 2 = true ∧ e 3 = true ∧ e 4 = true ∧ e 5 = true ∧ e 6 = true ∧ e 7 = true ∧ e 8 = true ∧ e 9 = true ∧ e 10 = true ∧ e 11 = true ∧ e 12 = true ∧ True from hdn 14 r14); obtain ⟨r1, -, -, -, -, -, -, -, -, -, -, -, -, -, -, -⟩ := (show e 1 = true ∧ e 2 = true ∧ e 0 = true ∧ e 1 = true ∧ e 2 = true ∧ e 3 = true ∧ e 4 = true ∧ e 5 = true ∧ e 6 = true ∧ e 7 = true ∧ e 8 = true ∧ e 9 = true ∧ e 10 = true ∧ e 11 = true ∧ e 12 = true ∧ True from hdn 13 r13); exact r1
        cases hu12 : e 12
        ·simp only [setE, h0, he, h15, hu12, cj_t, cj_f, cjn_t, cjn_f, cb_t, cb_f]
         refine U (LdB (V rfl) rfl Ga22 (by decide)) <| Nt <| We ?_ ?_
         ·exact ⟨V rfl, V rfl, V rfl, V rfl, V rfl, V rfl, V rfl, V rfl, V rfl, V rfl, V rfl, V rfl, Vj, V rfl, V rfl, V rfl, V rfl, V rfl, V rfl, V rfl, Z⟩
         ·exact ⟨⟨_, rfl, ⟨rfl, rfl, (An rfl)⟩⟩, ⟨_, rfl, ⟨rfl, rfl, (An rfl)⟩⟩, ⟨_, rfl, rfl⟩, ⟨_, rfl, rfl⟩, Z⟩
        ·simp only [setE, h0, he, h15, hu12, cj_t, cj_f, cjn_t, cjn_f, cb_t, cb_f]
         refine U (LdB (V rfl) rfl Ga22 (by decide)) <| Nt <| We ?_ ?_
         ·exact ⟨V rfl, V rfl, V rfl, V rfl, V rfl, V rfl, V rfl, V rfl, V rfl, V rfl, V rfl, V rfl, V rfl, V rfl, V rfl, V rfl, V rfl, V rfl, V rfl, V rfl, Z⟩
         ·exact ⟨⟨_, rfl, ⟨rfl, rfl, (An rfl)⟩⟩, ⟨_, rfl, ⟨rfl, rfl, (An rfl)⟩⟩, ⟨_, rfl, rfl⟩, ⟨_, rfl, rfl⟩, Z⟩
       ·intro e hdn he hdp
        have h15 : e 15 = false := fls he fun q => by obtain ⟨r14, -, -, -, -, -, -, -, -, -, -, -, -, -, -, -, -⟩ := (show e 14 = true ∧ e 12 = true ∧ e 12 = true ∧ e 0 = true ∧ e 1 = true ∧ e 2 = true ∧ e 3 = true ∧ e 4 = true ∧ e 5 = true ∧ e 6 = true ∧ e 7 = true ∧ e 8 = true ∧ e 9 = true ∧ e 10 = true ∧ e 11 = true ∧ e 12 = true ∧ True from hdn 15 q); obtain ⟨r13, -, -, -, -, -, -, -, -, -, -, -, -, -, -⟩ := (show e 13 = true ∧ e 0 = true ∧ e 1 = true ∧ e 2 = true ∧ e 3 = true ∧ e 4 = true ∧ e 5 = true ∧ e 6 = true ∧ e 7 = true ∧ e 8 = true ∧ e 9 = true ∧ e 10 = true ∧ e 11 = true ∧ e 12 = true ∧ True from hdn 14 r14); obtain ⟨-, r2, -, -, -, -, -, -, -, -, -, -, -, -, -, -⟩ := (show e 1 = true ∧ e 2 = true ∧ e 0 = true ∧ e 1 = true ∧ e 2 = true ∧ e 3 = true ∧ e 4 = true ∧ e 5 = true ∧ e 6 = true ∧ e 7 = true ∧ e 8 = true ∧ e 9 = true ∧ e 10 = true ∧ e 11 = true ∧ e 12 = true ∧ True from hdn 13 r13); exact r2
        simp only [setE, he, h15, cj_t, cj_f, cjn_t, cjn_f, cb_t, cb_f]
        exact U (Mv (V rfl)) <| Nt <| weakS ⟨V rfl, V rfl, V rfl, V rfl, V rfl, V rfl, V rfl, V rfl, V rfl, V rfl, V rfl, V rfl, V rfl, V rfl, V rfl, V rfl, V rfl, V rfl, V rfl, V rfl, Z⟩
       ·intro e hdn he hdp
        have h12 : e 12 = false := fls he fun q => by obtain ⟨r8, -, -, -⟩ := (show e 8 = true ∧ e 9 = true ∧ e 11 = true ∧ True from hdn 12 q); obtain ⟨r7, -⟩ := (show e 7 = true ∧ True from hdn 8 r8); obtain ⟨r6, -⟩ := (show e 6 = true ∧ True from hdn 7 r7); obtain ⟨r4, -, -⟩ := (show e 4 = true ∧ e 5 = true ∧ True from hdn 6 r6); obtain ⟨r3, -⟩ := (show e 3 = true ∧ True from hdn 4 r4); exact r3
        have h15 : e 15 = false := fls he fun q => by obtain ⟨r14, -, -, -, -, -, -, -, -, -, -, -, -, -, -, -, -⟩ := (show e 14 = true ∧ e 12 = true ∧ e 12 = true ∧ e 0 = true ∧ e 1 = true ∧ e 2 = true ∧ e 3 = true ∧ e 4 = true ∧ e 5 = true ∧ e 6 = true ∧ e 7 = true ∧ e 8 = true ∧ e 9 = true ∧ e 10 = true ∧ e 11 = true ∧ e 12 = true ∧ True from hdn 15 q); obtain ⟨r13, -, -, -, -, -, -, -, -, -, -, -, -, -, -⟩ := (show e 13 = true ∧ e 0 = true ∧ e 1 = true ∧ e 2 = true ∧ e 3 = true ∧ e 4 = true ∧ e 5 = true ∧ e 6 = true ∧ e 7 = true ∧ e 8 = true ∧ e 9 = true ∧ e 10 = true ∧ e 11 = true ∧ e 12 = true ∧ True from hdn 14 r14); obtain ⟨-, -, -, -, -, -, -, -, -, -, -, -, -, -, r12, -⟩ := (show e 1 = true ∧ e 2 = true ∧ e 0 = true ∧ e 1 = true ∧ e 2 = true ∧ e 3 = true ∧ e 4 = true ∧ e 5 = true ∧ e 6 = true ∧ e 7 = true ∧ e 8 = true ∧ e 9 = true ∧ e 10 = true ∧ e 11 = true ∧ e 12 = true ∧ True from hdn 13 r13); obtain ⟨r8, -, -, -⟩ := (show e 8 = true ∧ e 9 = true ∧ e 11 = true ∧ True from hdn 12 r12); obtain ⟨r7, -⟩ := (show e 7 = true ∧ True from hdn 8 r8); obtain ⟨r6, -⟩ := (show e 6 = true ∧ True from hdn 7 r7); obtain ⟨r4, -, -⟩ := (show e 4 = true ∧ e 5 = true ∧ True from hdn 6 r6); obtain ⟨r3, -⟩ := (show e 3 = true ∧ True from hdn 4 r4); exact r3
        simp only [setE, he, h12, h15, cj_t, cj_f, cjn_t, cjn_f, cb_t, cb_f]
        refine U (FlB _ _ (V rfl) Un24 rfl 0 Sz22) <| Nt <| We ?_ ?_
        ·exact ⟨V rfl, V rfl, V rfl, V rfl, V rfl, V rfl, V rfl, V rfl, V rfl, V rfl, V rfl, V rfl, Vj, V rfl, V rfl, V rfl, V rfl, V rfl, V rfl, V rfl, Z⟩
        ·exact ⟨⟨_, rfl, ⟨rfl, rfl, (An rfl)⟩⟩, ⟨_, rfl, ⟨rfl, rfl, (An rfl)⟩⟩, ⟨_, rfl, rfl⟩, ⟨_, rfl, rfl⟩, Z⟩
       ·intro e hdn he hdp
        obtain ⟨h3, -⟩ := (show e 3 = true ∧ True from hdp)
        have h12 : e 12 = false := fls he fun q => by obtain ⟨r8, -, -, -⟩ := (show e 8 = true ∧ e 9 = true ∧ e 11 = true ∧ True from hdn 12 q); obtain ⟨r7, -⟩ := (show e 7 = true ∧ True from hdn 8 r8); obtain ⟨r6, -⟩ := (show e 6 = true ∧ True from hdn 7 r7); obtain ⟨r4, -, -⟩ := (show e 4 = true ∧ e 5 = true ∧ True from hdn 6 r6); exact r4
        have h15 : e 15 = false := fls he fun q => by obtain ⟨r14, -, -, -, -, -, -, -, -, -, -, -, -, -, -, -, -⟩ := (show e 14 = true ∧ e 12 = true ∧ e 12 = true ∧ e 0 = true ∧ e 1 = true ∧ e 2 = true ∧ e 3 = true ∧ e 4 = true ∧ e 5 = true ∧ e 6 = true ∧ e 7 = true ∧ e 8 = true ∧ e 9 = true ∧ e 10 = true ∧ e 11 = true ∧ e 12 = true ∧ True from hdn 15 q); obtain ⟨r13, -, -, -, -, -, -, -, -, -, -, -, -, -, -⟩ := (show e 13 = true ∧ e 0 = true ∧ e 1 = true ∧ e 2 = true ∧ e 3 = true ∧ e 4 = true ∧ e 5 = true ∧ e 6 = true ∧ e 7 = true ∧ e 8 = true ∧ e 9 = true ∧ e 10 = true ∧ e 11 = true ∧ e 12 = true ∧ True from hdn 14 r14); obtain ⟨-, -, -, -, -, -, -, -, -, -, -, -, -, -, r12, -⟩ := (show e 1 = true ∧ e 2 = true ∧ e 0 = true ∧ e 1 = true ∧ e 2 = true ∧ e 3 = true ∧ e 4 = true ∧ e 5 = true ∧ e 6 = true ∧ e 7 = true ∧ e 8 = true ∧ e 9 = true ∧ e 10 = true ∧ e 11 = true ∧ e 12 = true ∧ True from hdn 13 r13); obtain ⟨r8, -, -, -⟩ := (show e 8 = true ∧ e 9 = true ∧ e 11 = true ∧ True from hdn 12 r12); obtain ⟨r7, -⟩ := (show e 7 = true ∧ True from hdn 8 r8); obtain ⟨r6, -⟩ := (show e 6 = true ∧ True from hdn 7 r7); obtain ⟨r4, -, -⟩ := (show e 4 = true ∧ e 5 = true ∧ True from hdn 6 r6); exact r4
        simp only [setE, h3, he, h12, h15, cj_t, cj_f, cjn_t, cjn_f, cb_t, cb_f]
        refine U (LdB (V rfl) rfl Ga22 (by decide)) <| Nt <| We ?_ ?_
        ·exact ⟨V rfl, V rfl, V rfl, V rfl, V rfl, V rfl, V rfl, V rfl, V rfl, V rfl, V rfl, V rfl, Vj, V rfl, V rfl, V rfl, V rfl, V rfl, V rfl, V rfl, Z⟩
        ·exact ⟨⟨_, rfl, ⟨rfl, rfl, (An rfl)⟩⟩, ⟨_, rfl, ⟨rfl, rfl, (An rfl)⟩⟩, ⟨_, rfl, rfl⟩, ⟨_, rfl, rfl⟩, Z⟩
       ·intro e hdn he hdp
        have h12 : e 12 = false := fls he fun q => by obtain ⟨r8, -, -, -⟩ := (show e 8 = true ∧ e 9 = true ∧ e 11 = true ∧ True from hdn 12 q); obtain ⟨r7, -⟩ := (show e 7 = true ∧ True from hdn 8 r8); obtain ⟨r6, -⟩ := (show e 6 = true ∧ True from hdn 7 r7); obtain ⟨-, r5, -⟩ := (show e 4 = true ∧ e 5 = true ∧ True from hdn 6 r6); exact r5
        have h15 : e 15 = false := fls he fun q => by obtain ⟨r14, -, -, -, -, -, -, -, -, -, -, -, -, -, -, -, -⟩ := (show e 14 = true ∧ e 12 = true ∧ e 12 = true ∧ e 0 = true ∧ e 1 = true ∧ e 2 = true ∧ e 3 = true ∧ e 4 = true ∧ e 5 = true ∧ e 6 = true ∧ e 7 = true ∧ e 8 = true ∧ e 9 = true ∧ e 10 = true ∧ e 11 = true ∧ e 12 = true ∧ True from hdn 15 q); obtain ⟨r13, -, -, -, -, -, -, -, -, -, -, -, -, -, -⟩ := (show e 13 = true ∧ e 0 = true ∧ e 1 = true ∧ e 2 = true ∧ e 3 = true ∧ e 4 = true ∧ e 5 = true ∧ e 6 = true ∧ e 7 = true ∧ e 8 = true ∧ e 9 = true ∧ e 10 = true ∧ e 11 = true ∧ e 12 = true ∧ True from hdn 14 r14); obtain ⟨-, -, -, -, -, -, -, -, -, -, -, -, -, -, r12, -⟩ := (show e 1 = true ∧ e 2 = true ∧ e 0 = true ∧ e 1 = true ∧ e 2 = true ∧ e 3 = true ∧ e 4 = true ∧ e 5 = true ∧ e 6 = true ∧ e 7 = true ∧ e 8 = true ∧ e 9 = true ∧ e 10 = true ∧ e 11 = true ∧ e 12 = true ∧ True from hdn 13 r13); obtain ⟨r8, -, -, -⟩ := (show e 8 = true ∧ e 9 = true ∧ e 11 = true ∧ True from hdn 12 r12); obtain ⟨r7, -⟩ := (show e 7 = true ∧ True from hdn 8 r8); obtain ⟨r6, -⟩ := (show e 6 = true ∧ True from hdn 7 r7); obtain ⟨-, r5, -⟩ := (show e 4 = true ∧ e 5 = true ∧ True from hdn 6 r6); exact r5
        simp only [setE, he, h12, h15, cj_t, cj_f, cjn_t, cjn_f, cb_t, cb_f]
        refine U (Mv (V rfl)) <| Nt <| We ?_ ?_
        ·exact ⟨V rfl, V rfl, V rfl, V rfl, V rfl, V rfl, V rfl, V rfl, V rfl, V rfl, V rfl, V rfl, Vj, V rfl, V rfl, V rfl, V rfl, V rfl, V rfl, V rfl, Z⟩
        ·exact ⟨⟨_, rfl, ⟨rfl, rfl, (An rfl)⟩⟩, ⟨_, rfl, ⟨rfl, rfl, (An rfl)⟩⟩, ⟨_, rfl, rfl⟩, ⟨_, rfl, rfl⟩, Z⟩
       ·intro e hdn he hdp
        obtain ⟨h4, h5, -⟩ := (show e 4 = true ∧ e 5 = true ∧ True from hdp)
        obtain ⟨h3, -⟩ := (show e 3 = true ∧ True from hdn 4 h4)
        have h12 : e 12 = false := fls he fun q => by obtain ⟨r8, -, -, -⟩ := (show e 8 = true ∧ e 9 = true ∧ e 11 = true ∧ True from hdn 12 q); obtain ⟨r7, -⟩ := (show e 7 = true ∧ True from hdn 8 r8); obtain ⟨r6, -⟩ := (show e 6 = true ∧ True from hdn 7 r7); exact r6
        have h15 : e 15 = false := fls he fun q => by obtain ⟨r14, -, -, -, -, -, -, -, -, -, -, -, -, -, -, -, -⟩ := (show e 14 = true ∧ e 12 = true ∧ e 12 = true ∧ e 0 = true ∧ e 1 = true ∧ e 2 = true ∧ e 3 = true ∧ e 4 = true ∧ e 5 = true ∧ e 6 = true ∧ e 7 = true ∧ e 8 = true ∧ e 9 = true ∧ e 10 = true ∧ e 11 = true ∧ e 12 = true ∧ True from hdn 15 q); obtain ⟨r13, -, -, -, -, -, -, -, -, -, -, -, -, -, -⟩ := (show e 13 = true ∧ e 0 = true ∧ e 1 = true ∧ e 2 = true ∧ e 3 = true ∧ e 4 = true ∧ e 5 = true ∧ e 6 = true ∧ e 7 = true ∧ e 8 = true ∧ e 9 = true ∧ e 10 = true ∧ e 11 = true ∧ e 12 = true ∧ True from hdn 14 r14); obtain ⟨-, -, -, -, -, -, -, -, -, -, -, -, -, -, r12, -⟩ := (show e 1 = true ∧ e 2 = true ∧ e 0 = true ∧ e 1 = true ∧ e 2 = true ∧ e 3 = true ∧ e 4 = true ∧ e 5 = true ∧ e 6 = true ∧ e 7 = true ∧ e 8 = true ∧ e 9 = true ∧ e 10 = true ∧ e 11 = true ∧ e 12 = true ∧ True from hdn 13 r13); obtain ⟨r8, -, -, -⟩ := (show e 8 = true ∧ e 9 = true ∧ e 11 = true ∧ True from hdn 12 r12); obtain ⟨r7, -⟩ := (show e 7 = true ∧ True from hdn 8 r8); obtain ⟨r6, -⟩ := (show e 6 = true ∧ True from hdn 7 r7); exact r6
        simp only [setE, h3, h4, h5, he, h12, h15, cj_t, cj_f, cjn_t, cjn_f, cb_t, cb_f]
        refine U (q_idxU (V rfl) rfl (V rfl) ts22 te22 (by omega) (by first | omega | (simp only [List.length_set]; omega))) <| Nt <| We ?_ ?_
        ·exact ⟨V rfl, V rfl, V rfl, V rfl, V rfl, V rfl, V rfl, V rfl, V rfl, V rfl, V rfl, V rfl, Vj, V rfl, V rfl, V rfl, V rfl, V rfl, V rfl, V rfl, Z⟩
        ·exact ⟨⟨_, rfl, ⟨rfl, rfl, (An rfl)⟩⟩, ⟨_, rfl, ⟨rfl, rfl, (An rfl)⟩⟩, ⟨_, rfl, rfl⟩, ⟨_, rfl, rfl⟩, Z⟩
       ·intro e hdn he hdp
        obtain ⟨h6, -⟩ := (show e 6 = true ∧ True from hdp)
        obtain ⟨h4, h5, -⟩ := (show e 4 = true ∧ e 5 = true ∧ True from hdn 6 h6)
        obtain ⟨h3, -⟩ := (show e 3 = true ∧ True from hdn 4 h4)
        have h12 : e 12 = false := fls he fun q => by obtain ⟨r8, -, -, -⟩ := (show e 8 = true ∧ e 9 = true ∧ e 11 = true ∧ True from hdn 12 q); obtain ⟨r7, -⟩ := (show e 7 = true ∧ True from hdn 8 r8); exact r7
        have h15 : e 15 = false := fls he fun q => by obtain ⟨r14, -, -, -, -, -, -, -, -, -, -, -, -, -, -, -, -⟩ := (show e 14 = true ∧ e 12 = true ∧ e 12 = true ∧ e 0 = true ∧ e 1 = true ∧ e 2 = true ∧ e 3 = true ∧ e 4 = true ∧ e 5 = true ∧ e 6 = true ∧ e 7 = true ∧ e 8 = true ∧ e 9 = true ∧ e 10 = true ∧ e 11 = true ∧ e 12 = true ∧ True from hdn 15 q); obtain ⟨r13, -, -, -, -, -, -, -, -, -, -, -, -, -, -⟩ := (show e 13 = true ∧ e 0 = true ∧ e 1 = true ∧ e 2 = true ∧ e 3 = true ∧ e 4 = true ∧ e 5 = true ∧ e 6 = true ∧ e 7 = true ∧ e 8 = true ∧ e 9 = true ∧ e 10 = true ∧ e 11 = true ∧ e 12 = true ∧ True from hdn 14 r14); obtain ⟨-, -, -, -, -, -, -, -, -, -, -, -, -, -, r12, -⟩ := (show e 1 = true ∧ e 2 = true ∧ e 0 = true ∧ e 1 = true ∧ e 2 = true ∧ e 3 = true ∧ e 4 = true ∧ e 5 = true ∧ e 6 = true ∧ e 7 = true ∧ e 8 = true ∧ e 9 = true ∧ e 10 = true ∧ e 11 = true ∧ e 12 = true ∧ True from hdn 13 r13); obtain ⟨r8, -, -, -⟩ := (show e 8 = true ∧ e 9 = true ∧ e 11 = true ∧ True from hdn 12 r12); obtain ⟨r7, -⟩ := (show e 7 = true ∧ True from hdn 8 r8); exact r7
        simp only [setE, h3, h4, h5, h6, he, h12, h15, cj_t, cj_f, cjn_t, cjn_f, cb_t, cb_f]
        refine U (FlO _ _ (V rfl) Un61 rfl 0 Sz33) <| Nt <| We ?_ ?_
        ·exact ⟨V rfl, V rfl, V rfl, V rfl, V rfl, V rfl, V rfl, V rfl, V rfl, V rfl, V rfl, V rfl, Vj, V rfl, V rfl, V rfl, V rfl, V rfl, V rfl, V rfl, Z⟩
        ·exact ⟨⟨_, rfl, ⟨rfl, rfl, (An rfl)⟩⟩, ⟨_, rfl, ⟨rfl, rfl, (An rfl)⟩⟩, ⟨_, rfl, rfl⟩, ⟨_, rfl, rfl⟩, Z⟩
       ·intro e hdn he hdp
        obtain ⟨h7, -⟩ := (show e 7 = true ∧ True from hdp)
        obtain ⟨h6, -⟩ := (show e 6 = true ∧ True from hdn 7 h7)
        obtain ⟨h4, h5, -⟩ := (show e 4 = true ∧ e 5 = true ∧ True from hdn 6 h6)
        obtain ⟨h3, -⟩ := (show e 3 = true ∧ True from hdn 4 h4)
        have h12 : e 12 = false := fls he fun q => by obtain ⟨r8, -, -, -⟩ := (show e 8 = true ∧ e 9 = true ∧ e 11 = true ∧ True from hdn 12 q); exact r8
        have h15 : e 15 = false := fls he fun q => by obtain ⟨r14, -, -, -, -, -, -, -, -, -, -, -, -, -, -, -, -⟩ := (show e 14 = true ∧ e 12 = true ∧ e 12 = true ∧ e 0 = true ∧ e 1 = true ∧ e 2 = true ∧ e 3 = true ∧ e 4 = true ∧ e 5 = true ∧ e 6 = true ∧ e 7 = true ∧ e 8 = true ∧ e 9 = true ∧ e 10 = true ∧ e 11 = true ∧ e 12 = true ∧ True from hdn 15 q); obtain ⟨r13, -, -, -, -, -, -, -, -, -, -, -, -, -, -⟩ := (show e 13 = true ∧ e 0 = true ∧ e 1 = true ∧ e 2 = true ∧ e 3 = true ∧ e 4 = true ∧ e 5 = true ∧ e 6 = true ∧ e 7 = true ∧ e 8 = true ∧ e 9 = true ∧ e 10 = true ∧ e 11 = true ∧ e 12 = true ∧ True from hdn 14 r14); obtain ⟨-, -, -, -, -, -, -, -, -, -, -, -, -, -, r12, -⟩ := (show e 1 = true ∧ e 2 = true ∧ e 0 = true ∧ e 1 = true ∧ e 2 = true ∧ e 3 = true ∧ e 4 = true ∧ e 5 = true ∧ e 6 = true ∧ e 7 = true ∧ e 8 = true ∧ e 9 = true ∧ e 10 = true ∧ e 11 = true ∧ e 12 = true ∧ True from hdn 13 r13); obtain ⟨r8, -, -, -⟩ := (show e 8 = true ∧ e 9 = true ∧ e 11 = true ∧ True from hdn 12 r12); exact r8
        simp only [setE, h3, h4, h5, h6, h7, he, h12, h15, cj_t, cj_f, cjn_t, cjn_f, cb_t, cb_f]
        refine U (LdU (V rfl) rfl Ga33 (by decide) uat_hole) <| Nt <| We ?_ ?_
        ·exact ⟨V rfl, V rfl, V rfl, V rfl, V rfl, V rfl, V rfl, V rfl, V rfl, V rfl, V rfl, V rfl, Vj, V rfl, V rfl, V rfl, V rfl, V rfl, V rfl, V rfl, Z⟩
        ·exact ⟨⟨_, rfl, ⟨rfl, rfl, (An rfl)⟩⟩, ⟨_, rfl, ⟨rfl, rfl, (An rfl)⟩⟩, ⟨_, rfl, rfl⟩, ⟨_, rfl, rfl⟩, Z⟩
       ·intro e hdn he hdp
        have h12 : e 12 = false := fls he fun q => by obtain ⟨-, r9, -, -⟩ := (show e 8 = true ∧ e 9 = true ∧ e 11 = true ∧ True from hdn 12 q); exact r9
        have h15 : e 15 = false := fls he fun q => by obtain ⟨r14, -, -, -, -, -, -, -, -, -, -, -, -, -, -, -, -⟩ := (show e 14 = true ∧ e 12 = true ∧ e 12 = true ∧ e 0 = true ∧ e 1 = true ∧ e 2 = true ∧ e 3 = true ∧ e 4 = true ∧ e 5 = true ∧ e 6 = true ∧ e 7 = true ∧ e 8 = true ∧ e 9 = true ∧ e 10 = true ∧ e 11 = true ∧ e 12 = true ∧ True from hdn 15 q); obtain ⟨r13, -, -, -, -, -, -, -, -, -, -, -, -, -, -⟩ := (show e 13 = true ∧ e 0 = true ∧ e 1 = true ∧ e 2 = true ∧ e 3 = true ∧ e 4 = true ∧ e 5 = true ∧ e 6 = true ∧ e 7 = true ∧ e 8 = true ∧ e 9 = true ∧ e 10 = true ∧ e 11 = true ∧ e 12 = true ∧ True from hdn 14 r14); obtain ⟨-, -, -, -, -, -, -, -, -, -, -, -, -, -, r12, -⟩ := (show e 1 = true ∧ e 2 = true ∧ e 0 = true ∧ e 1 = true ∧ e 2 = true ∧ e 3 = true ∧ e 4 = true ∧ e 5 = true ∧ e 6 = true ∧ e 7 = true ∧ e 8 = true ∧ e 9 = true ∧ e 10 = true ∧ e 11 = true ∧ e 12 = true ∧ True from hdn 13 r13); obtain ⟨-, r9, -, -⟩ := (show e 8 = true ∧ e 9 = true ∧ e 11 = true ∧ True from hdn 12 r12); exact r9
        simp only [setE, he, h12, h15, cj_t, cj_f, cjn_t, cjn_f, cb_t, cb_f]
        refine U (Mv (V rfl)) <| Nt <| We ?_ ?_
        ·exact ⟨V rfl, V rfl, V rfl, V rfl, V rfl, V rfl, V rfl, V rfl, V rfl, V rfl, V rfl, V rfl, Vj, V rfl, V rfl, V rfl, V rfl, V rfl, V rfl, V rfl, Z⟩
        ·exact ⟨⟨_, rfl, ⟨rfl, rfl, (An rfl)⟩⟩, ⟨_, rfl, ⟨rfl, rfl, (An rfl)⟩⟩, ⟨_, rfl, rfl⟩, ⟨_, rfl, rfl⟩, Z⟩
       ·intro e hdn he hdp
        have h12 : e 12 = false := fls he fun q => by obtain ⟨-, -, r11, -⟩ := (show e 8 = true ∧ e 9 = true ∧ e 11 = true ∧ True from hdn 12 q); obtain ⟨r10, -⟩ := (show e 10 = true ∧ True from hdn 11 r11); exact r10
        have h15 : e 15 = false := fls he fun q => by obtain ⟨r14, -, -, -, -, -, -, -, -, -, -, -, -, -, -, -, -⟩ := (show e 14 = true ∧ e 12 = true ∧ e 12 = true ∧ e 0 = true ∧ e 1 = true ∧ e 2 = true ∧ e 3 = true ∧ e 4 = true ∧ e 5 = true ∧ e 6 = true ∧ e 7 = true ∧ e 8 = true ∧ e 9 = true ∧ e 10 = true ∧ e 11 = true ∧ e 12 = true ∧ True from hdn 15 q); obtain ⟨r13, -, -, -, -, -, -, -, -, -, -, -, -, -, -⟩ := (show e 13 = true ∧ e 0 = true ∧ e 1 = true ∧ e 2 = true ∧ e 3 = true ∧ e 4 = true ∧ e 5 = true ∧ e 6 = true ∧ e 7 = true ∧ e 8 = true ∧ e 9 = true ∧ e 10 = true ∧ e 11 = true ∧ e 12 = true ∧ True from hdn 14 r14); obtain ⟨-, -, -, -, -, -, -, -, -, -, -, -, -, -, r12, -⟩ := (show e 1 = true ∧ e 2 = true ∧ e 0 = true ∧ e 1 = true ∧ e 2 = true ∧ e 3 = true ∧ e 4 = true ∧ e 5 = true ∧ e 6 = true ∧ e 7 = true ∧ e 8 = true ∧ e 9 = true ∧ e 10 = true ∧ e 11 = true ∧ e 12 = true ∧ True from hdn 13 r13); obtain ⟨-, -, r11, -⟩ := (show e 8 = true ∧ e 9 = true ∧ e 11 = true ∧ True from hdn 12 r12); obtain ⟨r10, -⟩ := (show e 10 = true ∧ True from hdn 11 r11); exact r10
        simp only [setE, he, h12, h15, cj_t, cj_f, cjn_t, cjn_f, cb_t, cb_f]
        refine U (Mv (V rfl)) <| Nt <| We ?_ ?_
        ·exact ⟨V rfl, V rfl, V rfl, V rfl, V rfl, V rfl, V rfl, V rfl, V rfl, V rfl, V rfl, V rfl, Vj, V rfl, V rfl, V rfl, V rfl, V rfl, V rfl, V rfl, Z⟩
        ·exact ⟨⟨_, rfl, ⟨rfl, rfl, (An rfl)⟩⟩, ⟨_, rfl, ⟨rfl, rfl, (An rfl)⟩⟩, ⟨_, rfl, rfl⟩, ⟨_, rfl, rfl⟩, Z⟩
       ·intro e hdn he hdp
        obtain ⟨h10, -⟩ := (show e 10 = true ∧ True from hdp)
        have h12 : e 12 = false := fls he fun q => by obtain ⟨-, -, r11, -⟩ := (show e 8 = true ∧ e 9 = true ∧ e 11 = true ∧ True from hdn 12 q); exact r11
        have h15 : e 15 = false := fls he fun q => by obtain ⟨r14, -, -, -, -, -, -, -, -, -, -, -, -, -, -, -, -⟩ := (show e 14 = true ∧ e 12 = true ∧ e 12 = true ∧ e 0 = true ∧ e 1 = true ∧ e 2 = true ∧ e 3 = true ∧ e 4 = true ∧ e 5 = true ∧ e 6 = true ∧ e 7 = true ∧ e 8 = true ∧ e 9 = true ∧ e 10 = true ∧ e 11 = true ∧ e 12 = true ∧ True from hdn 15 q); obtain ⟨r13, -, -, -, -, -, -, -, -, -, -, -, -, -, -⟩ := (show e 13 = true ∧ e 0 = true ∧ e 1 = true ∧ e 2 = true ∧ e 3 = true ∧ e 4 = true ∧ e 5 = true ∧ e 6 = true ∧ e 7 = true ∧ e 8 = true ∧ e 9 = true ∧ e 10 = true ∧ e 11 = true ∧ e 12 = true ∧ True from hdn 14 r14); obtain ⟨-, -, -, -, -, -, -, -, -, -, -, -, -, -, r12, -⟩ := (show e 1 = true ∧ e 2 = true ∧ e 0 = true ∧ e 1 = true ∧ e 2 = true ∧ e 3 = true ∧ e 4 = true ∧ e 5 = true ∧ e 6 = true ∧ e 7 = true ∧ e 8 = true ∧ e 9 = true ∧ e 10 = true ∧ e 11 = true ∧ e 12 = true ∧ True from hdn 13 r13); obtain ⟨-, -, r11, -⟩ := (show e 8 = true ∧ e 9 = true ∧ e 11 = true ∧ True from hdn 12 r12); exact r11
        simp only [setE, h10, he, h12, h15, cj_t, cj_f, cjn_t, cjn_f, cb_t, cb_f]
        refine Uw (w_bs (n := 1) (zget := fun _ => iv 0) [(fun _ => iv (c.pl))] (rowG inCell 0 [c.pl]) Un33 Sz3 zero3 (by decide) rfl (by decide) ⟨⟨rfl, .inr ⟨rfl, (V rfl), rfl⟩, rfl⟩, Z⟩ ⟨Z, ⟨Z, rfl⟩⟩) <| Nt <| We ?_ ?_
        ·exact ⟨V rfl, V rfl, V rfl, V rfl, V rfl, V rfl, V rfl, V rfl, V rfl, V rfl, V rfl, V rfl, Vj, V rfl, V rfl, V rfl, V rfl, V rfl, V rfl, V rfl, Z⟩
        ·exact ⟨⟨_, rfl, ⟨rfl, rfl, (An rfl)⟩⟩, ⟨_, rfl, ⟨rfl, rfl, (An rfl)⟩⟩, ⟨_, rfl, rfl⟩, ⟨_, rfl, rfl⟩, Z⟩
       ·intro e hdn he hdp
        obtain ⟨h8, h9, h11, -⟩ := (show e 8 = true ∧ e 9 = true ∧ e 11 = true ∧ True from hdp)
        obtain ⟨h10, -⟩ := (show e 10 = true ∧ True from hdn 11 h11)
        obtain ⟨h7, -⟩ := (show e 7 = true ∧ True from hdn 8 h8)
        obtain ⟨h6, -⟩ := (show e 6 = true ∧ True from hdn 7 h7)
        obtain ⟨h4, h5, -⟩ := (show e 4 = true ∧ e 5 = true ∧ True from hdn 6 h6)
        obtain ⟨h3, -⟩ := (show e 3 = true ∧ True from hdn 4 h4)
        have h13 : e 13 = false := fls he fun q => by obtain ⟨-, -, -, -, -, -, -, -, -, -, -, -, -, -, r12, -⟩ := (show e 1 = true ∧ e 2 = true ∧ e 0 = true ∧ e 1 = true ∧ e 2 = true ∧ e 3 = true ∧ e 4 = true ∧ e 5 = true ∧ e 6 = true ∧ e 7 = true ∧ e 8 = true ∧ e 9 = true ∧ e 10 = true ∧ e 11 = true ∧ e 12 = true ∧ True from hdn 13 q); exact r12
        have h14 : e 14 = false := fls he fun q => by obtain ⟨r13, -, -, -, -, -, -, -, -, -, -, -, -, -, -⟩ := (show e 13 = true ∧ e 0 = true ∧ e 1 = true ∧ e 2 = true ∧ e 3 = true ∧ e 4 = true ∧ e 5 = true ∧ e 6 = true ∧ e 7 = true ∧ e 8 = true ∧ e 9 = true ∧ e 10 = true ∧ e 11 = true ∧ e 12 = true ∧ True from hdn 14 q); obtain ⟨-, -, -, -, -, -, -, -, -, -, -, -, -, -, r12, -⟩ := (show e 1 = true ∧ e 2 = true ∧ e 0 = true ∧ e 1 = true ∧ e 2 = true ∧ e 3 = true ∧ e 4 = true ∧ e 5 = true ∧ e 6 = true ∧ e 7 = true ∧ e 8 = true ∧ e 9 = true ∧ e 10 = true ∧ e 11 = true ∧ e 12 = true ∧ True from hdn 13 r13); exact r12
        have h15 : e 15 = false := fls he fun q => by obtain ⟨r14, -, -, -, -, -, -, -, -, -, -, -, -, -, -, -, -⟩ := (show e 14 = true ∧ e 12 = true ∧ e 12 = true ∧ e 0 = true ∧ e 1 = true ∧ e 2 = true ∧ e 3 = true ∧ e 4 = true ∧ e 5 = true ∧ e 6 = true ∧ e 7 = true ∧ e 8 = true ∧ e 9 = true ∧ e 10 = true ∧ e 11 = true ∧ e 12 = true ∧ True from hdn 15 q); obtain ⟨r13, -, -, -, -, -, -, -, -, -, -, -, -, -, -⟩ := (show e 13 = true ∧ e 0 = true ∧ e 1 = true ∧ e 2 = true ∧ e 3 = true ∧ e 4 = true ∧ e 5 = true ∧ e 6 = true ∧ e 7 = true ∧ e 8 = true ∧ e 9 = true ∧ e 10 = true ∧ e 11 = true ∧ e 12 = true ∧ True from hdn 14 r14); obtain ⟨-, -, -, -, -, -, -, -, -, -, -, -, -, -, r12, -⟩ := (show e 1 = true ∧ e 2 = true ∧ e 0 = true ∧ e 1 = true ∧ e 2 = true ∧ e 3 = true ∧ e 4 = true ∧ e 5 = true ∧ e 6 = true ∧ e 7 = true ∧ e 8 = true ∧ e 9 = true ∧ e 10 = true ∧ e 11 = true ∧ e 12 = true ∧ True from hdn 13 r13); exact r12
        simp only [setE, h3, h4, h5, h6, h7, h8, h9, h10, h11, he, h13, h14, h15, cj_t, cj_f, cjn_t, cjn_f, cb_t, cb_f]
        refine CM (cargs := [SV.own 1000, iv (idxI (Nd.kids ((outSt l c.pl).getD (Int.toNat p.pl) default)) ((ah.getD 0 default).pl)), inRow ([c.pl])]) [(1000, 10)] [(0, 11)] en98 (by exact ⟨(V rfl), (V rfl), (V rfl), Z⟩) (insI_ct (Nd.kids ((outSt l c.pl).getD (Int.toNat p.pl) default)) ([c.pl]) (idxI (Nd.kids ((outSt l c.pl).getD (Int.toNat p.pl) default)) ((ah.getD 0 default).pl)) (by first | omega | assumption) (by first | omega | (simp only [List.length_cons, List.length_nil]; omega) | assumption)) (by exact ⟨⟨_, rfl, rfl⟩, Z⟩) rfl (freshN_cons (fresh_mk ⟨(noId_cj rfl), (noId_cj rfl), (noId_cj rfl), rfl, rfl, rfl, rfl, rfl, rfl, rfl, rfl, rfl, rfl, rfl, rfl, rfl, rfl, rfl, rfl, rfl, Z⟩ rfl rfl) rfl rfl) rfl rfl <| Nt <| We ?_ ?_
        ·exact ⟨V rfl, V rfl, V rfl, V rfl, V rfl, V rfl, V rfl, V rfl, V rfl, V rfl, V rfl, V rfl, V rfl, Vj, Vj, V rfl, V rfl, V rfl, V rfl, V rfl, Z⟩
        ·exact ⟨⟨_, rfl, ⟨rfl, rfl, (An rfl)⟩⟩, ⟨_, rfl, ⟨rfl, rfl, (An rfl)⟩⟩, ⟨_, rfl, rfl⟩, ⟨_, rfl, rfl⟩, Z⟩
       ·intro e hdn he hdp
        obtain ⟨h1, h2, h0, -, -, h3, h4, h5, h6, h7, h8, h9, h10, h11, h12, -⟩ := (show e 1 = true ∧ e 2 = true ∧ e 0 = true ∧ e 1 = true ∧ e 2 = true ∧ e 3 = true ∧ e 4 = true ∧ e 5 = true ∧ e 6 = true ∧ e 7 = true ∧ e 8 = true ∧ e 9 = true ∧ e 10 = true ∧ e 11 = true ∧ e 12 = true ∧ True from hdp)
        have h15 : e 15 = false := fls he fun q => by obtain ⟨r14, -, -, -, -, -, -, -, -, -, -, -, -, -, -, -, -⟩ := (show e 14 = true ∧ e 12 = true ∧ e 12 = true ∧ e 0 = true ∧ e 1 = true ∧ e 2 = true ∧ e 3 = true ∧ e 4 = true ∧ e 5 = true ∧ e 6 = true ∧ e 7 = true ∧ e 8 = true ∧ e 9 = true ∧ e 10 = true ∧ e 11 = true ∧ e 12 = true ∧ True from hdn 15 q); obtain ⟨r13, -, -, -, -, -, -, -, -, -, -, -, -, -, -⟩ := (show e 13 = true ∧ e 0 = true ∧ e 1 = true ∧ e 2 = true ∧ e 3 = true ∧ e 4 = true ∧ e 5 = true ∧ e 6 = true ∧ e 7 = true ∧ e 8 = true ∧ e 9 = true ∧ e 10 = true ∧ e 11 = true ∧ e 12 = true ∧ True from hdn 14 r14); exact r13
        simp only [setE, h0, h1, h2, h3, h4, h5, h6, h7, h8, h9, h10, h11, h12, he, h15, cj_t, cj_f, cjn_t, cjn_f, cb_t, cb_f]
        refine U (q_idxU (V rfl) rfl (V rfl) ts22 te22 (by omega) (by first | omega | (simp only [List.length_set]; omega))) <| Nt <| We ?_ ?_
        ·exact ⟨V rfl, V rfl, V rfl, V rfl, V rfl, V rfl, V rfl, V rfl, V rfl, V rfl, V rfl, V rfl, V rfl, V rfl, V rfl, V rfl, V rfl, V rfl, V rfl, V rfl, Z⟩
        ·exact ⟨⟨_, rfl, ⟨rfl, rfl, (An rfl)⟩⟩, ⟨_, rfl, ⟨rfl, rfl, (An rfl)⟩⟩, ⟨_, rfl, rfl⟩, ⟨_, rfl, rfl⟩, Z⟩
       ·intro e hdn he hdp
        obtain ⟨h13, h0, h1, h2, h3, h4, h5, h6, h7, h8, h9, h10, h11, h12, -⟩ := (show e 13 = true ∧ e 0 = true ∧ e 1 = true ∧ e 2 = true ∧ e 3 = true ∧ e 4 = true ∧ e 5 = true ∧ e 6 = true ∧ e 7 = true ∧ e 8 = true ∧ e 9 = true ∧ e 10 = true ∧ e 11 = true ∧ e 12 = true ∧ True from hdp)
        have h15 : e 15 = false := fls he fun q => by obtain ⟨r14, -, -, -, -, -, -, -, -, -, -, -, -, -, -, -, -⟩ := (show e 14 = true ∧ e 12 = true ∧ e 12 = true ∧ e 0 = true ∧ e 1 = true ∧ e 2 = true ∧ e 3 = true ∧ e 4 = true ∧ e 5 = true ∧ e 6 = true ∧ e 7 = true ∧ e 8 = true ∧ e 9 = true ∧ e 10 = true ∧ e 11 = true ∧ e 12 = true ∧ True from hdn 15 q); exact r14
        simp only [setE, h0, h1, h2, h3, h4, h5, h6, h7, h8, h9, h10, h11, h12, h13, he, h15, cj_t, cj_f, cjn_t, cjn_f, cb_t, cb_f]
        refine U (FlO _ _ (V rfl) Un61 rfl 0 Sz33) <| Nt <| We ?_ ?_
        ·exact ⟨V rfl, V rfl, V rfl, V rfl, V rfl, V rfl, V rfl, V rfl, V rfl, V rfl, V rfl, V rfl, V rfl, V rfl, V rfl, V rfl, V rfl, V rfl, V rfl, V rfl, Z⟩
        ·exact ⟨⟨_, rfl, ⟨rfl, rfl, (An rfl)⟩⟩, ⟨_, rfl, ⟨rfl, rfl, (An rfl)⟩⟩, ⟨_, rfl, rfl⟩, ⟨_, rfl, rfl⟩, Z⟩
       ·intro e hdn he hdp
        obtain ⟨h14, h12, -, h0, h1, h2, h3, h4, h5, h6, h7, h8, h9, h10, h11, -, -⟩ := (show e 14 = true ∧ e 12 = true ∧ e 12 = true ∧ e 0 = true ∧ e 1 = true ∧ e 2 = true ∧ e 3 = true ∧ e 4 = true ∧ e 5 = true ∧ e 6 = true ∧ e 7 = true ∧ e 8 = true ∧ e 9 = true ∧ e 10 = true ∧ e 11 = true ∧ e 12 = true ∧ True from hdp)
        obtain ⟨h13, -, -, -, -, -, -, -, -, -, -, -, -, -, -⟩ := (show e 13 = true ∧ e 0 = true ∧ e 1 = true ∧ e 2 = true ∧ e 3 = true ∧ e 4 = true ∧ e 5 = true ∧ e 6 = true ∧ e 7 = true ∧ e 8 = true ∧ e 9 = true ∧ e 10 = true ∧ e 11 = true ∧ e 12 = true ∧ True from hdn 14 h14)
        simp only [setE, h0, h1, h2, h3, h4, h5, h6, h7, h8, h9, h10, h11, h12, h13, h14, he, cj_t, cj_f, cjn_t, cjn_f, cb_t, cb_f]
        refine t_stH (V rfl) rfl (V rfl) (one_own rfl) Sz33 (by decide) (.inl rfl) <| Nt <| We ?_ ?_
        ·exact ⟨V rfl, V rfl, V rfl, V rfl, V rfl, V rfl, V rfl, V rfl, V rfl, V rfl, V rfl, V rfl, V rfl, V rfl, V rfl, V rfl, V rfl, V rfl, V rfl, V rfl, Z⟩
        ·exact ⟨⟨_, rfl, ⟨rfl, rfl, (An rfl)⟩⟩, ⟨_, rfl, ⟨rfl, rfl, (An rfl)⟩⟩, ⟨_, rfl, rfl⟩, ⟨_, rfl, rfl⟩, Z⟩
       ·intro e he
        have h0 := he 0 (by decide)
        have h1 := he 1 (by decide)
        have h2 := he 2 (by decide)
        have h3 := he 3 (by decide)
        have h4 := he 4 (by decide)
        have h5 := he 5 (by decide)
        have h6 := he 6 (by decide)
        have h7 := he 7 (by decide)
        have h8 := he 8 (by decide)
        have h9 := he 9 (by decide)
        have h10 := he 10 (by decide)
        have h11 := he 11 (by decide)
        have h12 := he 12 (by decide)
        have h13 := he 13 (by decide)
        have h14 := he 14 (by decide)
        have h15 := he 15 (by decide)
        show Weak _ ⟨[(102, cj (e 0) (SV.bp 1 0)), (103, cj (e 1) (SV.own 9)), (104, cj (e 2) (iv (p.pl))), (105, cj (e 3) (SV.bp 1 0)), (106, cj (e 4) (SV.own 9)), (107, cj (e 5) (iv (p.pl))), (108, cj (e 6) (SV.oe 9 8 (Int.toNat p.pl) 0)), (109, cj (e 7) (SV.oe 9 8 (Int.toNat p.pl) 5)), (110, cj (e 8) (SV.own 10)), (111, cj (e 9) (iv (idxI (Nd.kids ((outSt l c.pl).getD (Int.toNat p.pl) default)) ((ah.getD 0 default).pl)))), (112, cj (e 10) (iv (c.pl))), (113, cj (e 11) (inRow ([c.pl]))), (114, cj (e 12) (SV.own 11)), (115, cj (e 13) (SV.oe 9 8 (Int.toNat p.pl) 0)), (116, cj (e 14) (SV.oe 9 8 (Int.toNat p.pl) 5)), (4, SV.bp 1 0), (8, SV.bp 4 0), (11, iv (p.pl)), (12, iv (c.pl)), (13, iv (idxI (Nd.kids ((outSt l c.pl).getD (Int.toNat p.pl) default)) ((ah.getD 0 default).pl)))], (cb (e 12) (cb (e 15) [(1, Own.box 1 (fun zt => SV.renm (rn [(1000, 1), (1001, 8), (0, 9)]) ((cmpG [SV.own 0]) zt)) 24), (4, Own.box 1 (cmpG [SV.v (Value.slice none 0 0)]) 24), (9, urowOf ndCell 8 default (outSt l c.pl) 61 5 Nd.kids inCell 1 0 3 l.length (some (Int.toNat p.pl, SV.own 11))), (11, ownOf inCell 1 0 ((Nd.kids ((outSt l c.pl).getD (Int.toNat p.pl) default)).take (Int.toNat (idxI (Nd.kids ((outSt l c.pl).getD (Int.toNat p.pl) default)) ((ah.getD 0 default).pl))) ++ ([c.pl]) ++ (Nd.kids ((outSt l c.pl).getD (Int.toNat p.pl) default)).drop (Int.toNat (idxI (Nd.kids ((outSt l c.pl).getD (Int.toNat p.pl) default)) ((ah.getD 0 default).pl)))) 3)] [(1, Own.box 1 (fun zt => SV.renm (rn [(1000, 1), (1001, 8), (0, 9)]) ((cmpG [SV.own 0]) zt)) 24), (4, Own.box 1 (cmpG [SV.v (Value.slice none 0 0)]) 24), (9, urowOf ndCell 8 default (outSt l c.pl) 61 5 Nd.kids inCell 1 0 3 l.length (some (Int.toNat p.pl, SV.own 10))), (11, ownOf inCell 1 0 ((Nd.kids ((outSt l c.pl).getD (Int.toNat p.pl) default)).take (Int.toNat (idxI (Nd.kids ((outSt l c.pl).getD (Int.toNat p.pl) default)) ((ah.getD 0 default).pl))) ++ ([c.pl]) ++ (Nd.kids ((outSt l c.pl).getD (Int.toNat p.pl) default)).drop (Int.toNat (idxI (Nd.kids ((outSt l c.pl).getD (Int.toNat p.pl) default)) ((ah.getD 0 default).pl)))) 3)]) (cb (e 15) [] [(1, Own.box 1 (fun zt => SV.renm (rn [(1000, 1), (1001, 8), (0, 9)]) ((cmpG [SV.own 0]) zt)) 24), (4, Own.box 1 (cmpG [SV.v (Value.slice none 0 0)]) 24), (9, urowOf ndCell 8 default (outSt l c.pl) 61 5 Nd.kids inCell 1 0 3 l.length (some (Int.toNat p.pl, SV.own 10))), (10, ownOf inCell 1 0 (Nd.kids ((outSt l c.pl).getD (Int.toNat p.pl) default)) 3)]))⟩ _
        simp only [h0, h1, h2, h3, h4, h5, h6, h7, h8, h9, h10, h11, h12, h13, h14, h15]
        show Weak _ ⟨[(102, SV.bp 1 0), (103, SV.own 9), (104, iv (p.pl)), (105, SV.bp 1 0), (106, SV.own 9), (107, iv (p.pl)), (108, SV.oe 9 8 (Int.toNat p.pl) 0), (109, SV.oe 9 8 (Int.toNat p.pl) 5), (110, SV.own 10), (111, iv (idxI (Nd.kids ((outSt l c.pl).getD (Int.toNat p.pl) default)) ((ah.getD 0 default).pl))), (112, iv (c.pl)), (113, inRow ([c.pl])), (114, SV.own 11), (115, SV.oe 9 8 (Int.toNat p.pl) 0), (116, SV.oe 9 8 (Int.toNat p.pl) 5), (4, SV.bp 1 0), (8, SV.bp 4 0), (11, iv (p.pl)), (12, iv (c.pl)), (13, iv (idxI (Nd.kids ((outSt l c.pl).getD (Int.toNat p.pl) default)) ((ah.getD 0 default).pl)))], [(1, Own.box 1 (fun zt => SV.renm (rn [(1000, 1), (1001, 8), (0, 9)]) ((cmpG [SV.own 0]) zt)) 24), (4, Own.box 1 (cmpG [SV.v (Value.slice none 0 0)]) 24), (9, urowOf ndCell 8 default (outSt l c.pl) 61 5 Nd.kids inCell 1 0 3 l.length (some (Int.toNat p.pl, SV.own 11))), (11, ownOf inCell 1 0 ((Nd.kids ((outSt l c.pl).getD (Int.toNat p.pl) default)).take (Int.toNat (idxI (Nd.kids ((outSt l c.pl).getD (Int.toNat p.pl) default)) ((ah.getD 0 default).pl))) ++ ([c.pl]) ++ (Nd.kids ((outSt l c.pl).getD (Int.toNat p.pl) default)).drop (Int.toNat (idxI (Nd.kids ((outSt l c.pl).getD (Int.toNat p.pl) default)) ((ah.getD 0 default).pl)))) 3)]⟩ _
        refine We ?_ ?_
        ·exact ⟨V rfl, V rfl, V rfl, V rfl, V rfl, V rfl, V rfl, V rfl, V rfl, V rfl, V rfl, V rfl, V rfl, V rfl, V rfl, V rfl, V rfl, V rfl, V rfl, V rfl, Z⟩
        ·exact ⟨⟨_, rfl, ⟨rfl, rfl, (An rfl)⟩⟩, ⟨_, rfl, ⟨rfl, rfl, (An rfl)⟩⟩, ⟨_, rfl, rfl⟩, ⟨_, rfl, rfl⟩, Z⟩
       exact Sq <| Tc (turn_joinT 9 (Int.toNat p.pl) 11 l.length ({ ((outSt l c.pl).getD (Int.toNat p.pl) default) with kids := (Nd.kids ((outSt l c.pl).getD (Int.toNat p.pl) default)).take (Int.toNat (idxI (Nd.kids ((outSt l c.pl).getD (Int.toNat p.pl) default)) ((ah.getD 0 default).pl))) ++ ([c.pl]) ++ (Nd.kids ((outSt l c.pl).getD (Int.toNat p.pl) default)).drop (Int.toNat (idxI (Nd.kids ((outSt l c.pl).getD (Int.toNat p.pl) default)) ((ah.getD 0 default).pl))) }) rfl rfl rfl (by first | omega | (simp only [List.length_set]; omega)) (by omega) (by rw [if_pos (by omega)]) rfl rfl (fun t ht hne => match t, ht, hne with | 0, _, _ => rfl | 1, _, _ => rfl | 2, _, _ => rfl | 3, _, _ => rfl | 4, _, _ => rfl | 5, _, hne => absurd rfl hne | 6, _, _ => rfl | 7, _, _ => rfl) rfl) <| Rt <| U (FlB _ _ (V rfl) Un24 rfl 0 Sz22) <| U (LdB (V rfl) rfl Ga22 (by decide)) <| U (Mv (V rfl)) <| U (Mv (V rfl)) <| U (q_idxU (V rfl) rfl (V rfl) ts22 te22 (by omega) (by first | omega | (simp only [List.length_set]; omega))) <| U (FlO _ _ (V rfl) Un61 rfl 0 Sz3) <| t_stUT ({ (((outSt l c.pl).set (Int.toNat p.pl) ({ ((outSt l c.pl).getD (Int.toNat p.pl) default) with kids := (Nd.kids ((outSt l c.pl).getD (Int.toNat p.pl) default)).take (Int.toNat (idxI (Nd.kids ((outSt l c.pl).getD (Int.toNat p.pl) default)) ((ah.getD 0 default).pl))) ++ ([c.pl]) ++ (Nd.kids ((outSt l c.pl).getD (Int.toNat p.pl) default)).drop (Int.toNat (idxI (Nd.kids ((outSt l c.pl).getD (Int.toNat p.pl) default)) ((ah.getD 0 default).pl))) })).getD (Int.toNat c.pl) default) with par := p.pl }) (V rfl) rfl (V rfl) rfl rfl Sz3 (by decide) (by decide) (by first | omega | (simp only [List.length_set]; omega)) rfl (fun t ht hne => match t, ht, hne with | 0, _, _ => rfl | 1, _, _ => rfl | 2, _, _ => rfl | 3, _, _ => rfl | 4, _, hne => absurd rfl hne | 5, _, _ => rfl | 6, _, _ => rfl | 7, _, _ => rfl) rfl <| Nt <| Sq <| Rt <| U (LBA (V rfl) rfl Ga24 Sz24 (by decide)) <| StA (V rfl) rfl (V rfl) Sz24 <| U (As K) <| Nt <| Tc (turn_uAT 9 rfl rfl (fun _ => rfl)) <| FzC 9 rfl <| Rx <| RR2 rfl (rv_aggI (g' := stG (((outSt l c.pl).set (Int.toNat p.pl) ({ ((outSt l c.pl).getD (Int.toNat p.pl) default) with kids := (Nd.kids ((outSt l c.pl).getD (Int.toNat p.pl) default)).take (Int.toNat (idxI (Nd.kids ((outSt l c.pl).getD (Int.toNat p.pl) default)) ((ah.getD 0 default).pl))) ++ ([c.pl]) ++ (Nd.kids ((outSt l c.pl).getD (Int.toNat p.pl) default)).drop (Int.toNat (idxI (Nd.kids ((outSt l c.pl).getD (Int.toNat p.pl) default)) ((ah.getD 0 default).pl))) })).set (Int.toNat c.pl) ({ (((outSt l c.pl).set (Int.toNat p.pl) ({ ((outSt l c.pl).getD (Int.toNat p.pl) default) with kids := (Nd.kids ((outSt l c.pl).getD (Int.toNat p.pl) default)).take (Int.toNat (idxI (Nd.kids ((outSt l c.pl).getD (Int.toNat p.pl) default)) ((ah.getD 0 default).pl))) ++ ([c.pl]) ++ (Nd.kids ((outSt l c.pl).getD (Int.toNat p.pl) default)).drop (Int.toNat (idxI (Nd.kids ((outSt l c.pl).getD (Int.toNat p.pl) default)) ((ah.getD 0 default).pl))) })).getD (Int.toNat c.pl) default) with par := p.pl }))) (rv_cell (V rfl) rfl Ga24 Sz24) ⟨Z, Ir⟩) (rv_tmp (V rfl)) rfl rfl (by show sv2 (SV.agg 1 (stG (((outSt l c.pl).set (Int.toNat p.pl) ({ ((outSt l c.pl).getD (Int.toNat p.pl) default) with kids := (Nd.kids ((outSt l c.pl).getD (Int.toNat p.pl) default)).take (Int.toNat (idxI (Nd.kids ((outSt l c.pl).getD (Int.toNat p.pl) default)) ((ah.getD 0 default).pl))) ++ ([c.pl]) ++ (Nd.kids ((outSt l c.pl).getD (Int.toNat p.pl) default)).drop (Int.toNat (idxI (Nd.kids ((outSt l c.pl).getD (Int.toNat p.pl) default)) ((ah.getD 0 default).pl))) })).set (Int.toNat c.pl) ({ (((outSt l c.pl).set (Int.toNat p.pl) ({ ((outSt l c.pl).getD (Int.toNat p.pl) default) with kids := (Nd.kids ((outSt l c.pl).getD (Int.toNat p.pl) default)).take (Int.toNat (idxI (Nd.kids ((outSt l c.pl).getD (Int.toNat p.pl) default)) ((ah.getD 0 default).pl))) ++ ([c.pl]) ++ (Nd.kids ((outSt l c.pl).getD (Int.toNat p.pl) default)).drop (Int.toNat (idxI (Nd.kids ((outSt l c.pl).getD (Int.toNat p.pl) default)) ((ah.getD 0 default).pl))) })).getD (Int.toNat c.pl) default) with par := p.pl })))) (iv (0)) = sv2 (SV.agg 1 (stG (insSt l p c ah).1)) (iv (insSt l p c ah).2); rw [ins_6 (by omega) hc2s hq3 hq4 hq5, insPos, if_pos hah]; rfl)
      ·have hc6s := hc6; try simp only [BL] at hc6s
       refine Sk <| Sq <| c_rd (fun e => ⟨[(102, cj (e 0) (SV.bp 1 0)), (103, cj (e 1) (SV.own 9)), (104, cj (e 2) (iv (p.pl))), (105, cj (e 3) (SV.bp 1 0)), (106, cj (e 4) (SV.own 9)), (107, cj (e 5) (iv (p.pl))), (108, cj (e 6) (SV.oe 9 8 (Int.toNat p.pl) 0)), (109, cj (e 7) (SV.oe 9 8 (Int.toNat p.pl) 5)), (110, cj (e 8) (SV.own 10)), (111, cj (e 9) (iv (((Nd.kids ((outSt l c.pl).getD (Int.toNat p.pl) default)).length : Int)))), (112, cj (e 10) (iv (c.pl))), (113, cj (e 11) (inRow ([c.pl]))), (114, cj (e 12) (SV.own 12)), (115, cj (e 13) (SV.oe 9 8 (Int.toNat p.pl) 0)), (116, cj (e 14) (SV.oe 9 8 (Int.toNat p.pl) 5)), (4, SV.bp 1 0), (8, SV.bp 4 0), (11, iv (p.pl)), (12, iv (c.pl)), (13, iv (((Nd.kids ((outSt l c.pl).getD (Int.toNat p.pl) default)).length : Int)))], (cb (e 12) (cb (e 15) [(1, Own.box 1 (fun zt => SV.renm (rn [(1000, 1), (1001, 8), (0, 9)]) ((cmpG [SV.own 0]) zt)) 24), (4, Own.box 1 (cmpG [SV.v (Value.slice none 0 0)]) 24), (9, urowOf ndCell 8 default (outSt l c.pl) 61 5 Nd.kids inCell 1 0 3 l.length (some (Int.toNat p.pl, SV.own 12))), (12, ownOf inCell 1 0 ((Nd.kids ((outSt l c.pl).getD (Int.toNat p.pl) default)).take ((Nd.kids ((outSt l c.pl).getD (Int.toNat p.pl) default)).length) ++ ([c.pl]) ++ (Nd.kids ((outSt l c.pl).getD (Int.toNat p.pl) default)).drop ((Nd.kids ((outSt l c.pl).getD (Int.toNat p.pl) default)).length)) 3)] [(1, Own.box 1 (fun zt => SV.renm (rn [(1000, 1), (1001, 8), (0, 9)]) ((cmpG [SV.own 0]) zt)) 24), (4, Own.box 1 (cmpG [SV.v (Value.slice none 0 0)]) 24), (9, urowOf ndCell 8 default (outSt l c.pl) 61 5 Nd.kids inCell 1 0 3 l.length (some (Int.toNat p.pl, SV.own 10))), (12, ownOf inCell 1 0 ((Nd.kids ((outSt l c.pl).getD (Int.toNat p.pl) default)).take ((Nd.kids ((outSt l c.pl).getD (Int.toNat p.pl) default)).length) ++ ([c.pl]) ++ (Nd.kids ((outSt l c.pl).getD (Int.toNat p.pl) default)).drop ((Nd.kids ((outSt l c.pl).getD (Int.toNat p.pl) default)).length)) 3)]) (cb (e 15) [] [(1, Own.box 1 (fun zt => SV.renm (rn [(1000, 1), (1001, 8), (0, 9)]) ((cmpG [SV.own 0]) zt)) 24), (4, Own.box 1 (cmpG [SV.v (Value.slice none 0 0)]) 24), (9, urowOf ndCell 8 default (outSt l c.pl) 61 5 Nd.kids inCell 1 0 3 l.length (some (Int.toNat p.pl, SV.own 10))), (10, ownOf inCell 1 0 (Nd.kids ((outSt l c.pl).getD (Int.toNat p.pl) default)) 3)]))⟩) ⟨[(102, SV.bp 1 0), (103, SV.own 9), (104, iv (p.pl)), (105, SV.bp 1 0), (106, SV.own 9), (107, iv (p.pl)), (108, SV.oe 9 8 (Int.toNat p.pl) 0), (109, SV.oe 9 8 (Int.toNat p.pl) 5), (110, SV.own 10), (111, iv (((Nd.kids ((outSt l c.pl).getD (Int.toNat p.pl) default)).length : Int))), (112, iv (c.pl)), (113, inRow ([c.pl])), (114, SV.own 12), (115, SV.oe 9 8 (Int.toNat p.pl) 0), (116, SV.oe 9 8 (Int.toNat p.pl) 5), (4, SV.bp 1 0), (8, SV.bp 4 0), (11, iv (p.pl)), (12, iv (c.pl)), (13, iv (((Nd.kids ((outSt l c.pl).getD (Int.toNat p.pl) default)).length : Int)))], [(1, Own.box 1 (fun zt => SV.renm (rn [(1000, 1), (1001, 8), (0, 9)]) ((cmpG [SV.own 0]) zt)) 24), (4, Own.box 1 (cmpG [SV.v (Value.slice none 0 0)]) 24), (9, urowOf ndCell 8 default (outSt l c.pl) 61 5 Nd.kids inCell 1 0 3 l.length (some (Int.toNat p.pl, SV.own 12))), (12, ownOf inCell 1 0 ((Nd.kids ((outSt l c.pl).getD (Int.toNat p.pl) default)).take ((Nd.kids ((outSt l c.pl).getD (Int.toNat p.pl) default)).length) ++ ([c.pl]) ++ (Nd.kids ((outSt l c.pl).getD (Int.toNat p.pl) default)).drop ((Nd.kids ((outSt l c.pl).getD (Int.toNat p.pl) default)).length)) 3)]⟩ (by kernel_rfl) (by kernel_rfl) ?_ ⟨?_, ?_, ?_, ?_, ?_, ?_, ?_, ?_, ?_, ?_, ?_, ?_, ?_, ?_, ?_, ?_, Z⟩ ?_ ?_
       ·show Weak _ _ ⟨[(102, SV.junk), (103, SV.junk), (104, SV.junk), (105, SV.junk), (106, SV.junk), (107, SV.junk), (108, SV.junk), (109, SV.junk), (110, SV.junk), (111, SV.junk), (112, SV.junk), (113, SV.junk), (114, SV.junk), (115, SV.junk), (116, SV.junk), (4, SV.bp 1 0), (8, SV.bp 4 0), (11, iv (p.pl)), (12, iv (c.pl)), (13, iv (((Nd.kids ((outSt l c.pl).getD (Int.toNat p.pl) default)).length : Int)))], [(1, Own.box 1 (fun zt => SV.renm (rn [(1000, 1), (1001, 8), (0, 9)]) ((cmpG [SV.own 0]) zt)) 24), (4, Own.box 1 (cmpG [SV.v (Value.slice none 0 0)]) 24), (9, urowOf ndCell 8 default (outSt l c.pl) 61 5 Nd.kids inCell 1 0 3 l.length (some (Int.toNat p.pl, SV.own 10))), (10, ownOf inCell 1 0 (Nd.kids ((outSt l c.pl).getD (Int.toNat p.pl) default)) 3)]⟩
        refine We ?_ ?_
        ·exact ⟨Vj, Vj, Vj, Vj, Vj, Vj, Vj, Vj, Vj, Vj, Vj, Vj, Vj, Vj, Vj, V rfl, V rfl, V rfl, V rfl, V rfl, Z⟩
        ·exact ⟨⟨_, rfl, ⟨rfl, rfl, (An rfl)⟩⟩, ⟨_, rfl, ⟨rfl, rfl, (An rfl)⟩⟩, ⟨_, rfl, rfl⟩, ⟨_, rfl, rfl⟩, Z⟩
       ·intro e hdn he hdp
        have h15 : e 15 = false := fls he fun q => by obtain ⟨r14, -, -, -, -, -, -, -, -, -, -, -, -, -, -, -, -⟩ := (show e 14 = true ∧ e 12 = true ∧ e 12 = true ∧ e 0 = true ∧ e 1 = true ∧ e 2 = true ∧ e 3 = true ∧ e 4 = true ∧ e 5 = true ∧ e 6 = true ∧ e 7 = true ∧ e 8 = true ∧ e 9 = true ∧ e 10 = true ∧ e 11 = true ∧ e 12 = true ∧ True from hdn 15 q); obtain ⟨r13, -, -, -, -, -, -, -, -, -, -, -, -, -, -⟩ := (show e 13 = true ∧ e 0 = true ∧ e 1 = true ∧ e 2 = true ∧ e 3 = true ∧ e 4 = true ∧ e 5 = true ∧ e 6 = true ∧ e 7 = true ∧ e 8 = true ∧ e 9 = true ∧ e 10 = true ∧ e 11 = true ∧ e 12 = true ∧ True from hdn 14 r14); obtain ⟨r1, -, -, -, -, -, -, -, -, -, -, -, -, -, -, -⟩ := (show e 1 = true ∧ e 2 = true ∧ e 0 = true ∧ e 1 = true ∧ e 2 = true ∧ e 3 = true ∧ e 4 = true ∧ e 5 = true ∧ e 6 = true ∧ e 7 = true ∧ e 8 = true ∧ e 9 = true ∧ e 10 = true ∧ e 11 = true ∧ e 12 = true ∧ True from hdn 13 r13); obtain ⟨r0, -⟩ := (show e 0 = true ∧ True from hdn 1 r1); exact r0
        simp only [setE, he, h15, cj_t, cj_f, cjn_t, cjn_f, cb_t, cb_f]
        exact U (FlB _ _ (V rfl) Un24 rfl 0 Sz22) <| Nt <| weakS ⟨V rfl, V rfl, V rfl, V rfl, V rfl, V rfl, V rfl, V rfl, V rfl, V rfl, V rfl, V rfl, V rfl, V rfl, V rfl, V rfl, V rfl, V rfl, V rfl, V rfl, Z⟩
       ·intro e hdn he hdp
        obtain ⟨h0, -⟩ := (show e 0 = true ∧ True from hdp)
        have h15 : e 15 = false := fls he fun q => by obtain ⟨r14, -, -, -, -, -, -, -, -, -, -, -, -, -, -, -, -⟩ := (show e 14 = true ∧ e 12 = true ∧ e 12 = true ∧ e 0 = true ∧ e 1 = true ∧ e 2 = true ∧ e 3 = true ∧ e 4 = true ∧ e 5 = true ∧ e 6 = true ∧ e 7 = true ∧ e 8 = true ∧ e 9 = true ∧ e 10 = true ∧ e 11 = true ∧ e 12 = true ∧ True from hdn 15 q); obtain ⟨r13, -, -, -, -, -, -, -, -, -, -, -, -, -, -⟩ := (show e 13 = true ∧ e 0 = true ∧ e 1 = true ∧ e 2 = true ∧ e 3 = true ∧ e 4 = true ∧ e 5 = true ∧ e 6 = true ∧ e 7 = true ∧ e 8 = true ∧ e 9 = true ∧ e 10 = true ∧ e 11 = true ∧ e 12 = true ∧ True from hdn 14 r14); obtain ⟨r1, -, -, -, -, -, -, -, -, -, -, -, -, -, -, -⟩ := (show e 1 = true ∧ e 2 = true ∧ e 0 = true ∧ e 1 = true ∧ e 2 = true ∧ e 3 = true ∧ e 4 = true ∧ e 5 = true ∧ e 6 = true ∧ e 7 = true ∧ e 8 = true ∧ e 9 = true ∧ e 10 = true ∧ e 11 = true ∧ e 12 = true ∧ True from hdn 13 r13); exact r1
        cases hu12 : e 12
        ·simp only [setE, h0, he, h15, hu12, cj_t, cj_f, cjn_t, cjn_f, cb_t, cb_f]
         refine U (LdB (V rfl) rfl Ga22 (by decide)) <| Nt <| We ?_ ?_
         ·exact ⟨V rfl, V rfl, V rfl, V rfl, V rfl, V rfl, V rfl, V rfl, V rfl, V rfl, V rfl, V rfl, Vj, V rfl, V rfl, V rfl, V rfl, V rfl, V rfl, V rfl, Z⟩
         ·exact ⟨⟨_, rfl, ⟨rfl, rfl, (An rfl)⟩⟩, ⟨_, rfl, ⟨rfl, rfl, (An rfl)⟩⟩, ⟨_, rfl, rfl⟩, ⟨_, rfl, rfl⟩, Z⟩
        ·simp only [setE, h0, he, h15, hu12, cj_t, cj_f, cjn_t, cjn_f, cb_t, cb_f]
         refine U (LdB (V rfl) rfl Ga22 (by decide)) <| Nt <| We ?_ ?_
         ·exact ⟨V rfl, V rfl, V rfl, V rfl, V rfl, V rfl, V rfl, V rfl, V rfl, V rfl, V rfl, V rfl, V rfl, V rfl, V rfl, V rfl, V rfl, V rfl, V rfl, V rfl, Z⟩
         ·exact ⟨⟨_, rfl, ⟨rfl, rfl, (An rfl)⟩⟩, ⟨_, rfl, ⟨rfl, rfl, (An rfl)⟩⟩, ⟨_, rfl, rfl⟩, ⟨_, rfl, rfl⟩, Z⟩
       ·intro e hdn he hdp
        have h15 : e 15 = false := fls he fun q => by obtain ⟨r14, -, -, -, -, -, -, -, -, -, -, -, -, -, -, -, -⟩ := (show e 14 = true ∧ e 12 = true ∧ e 12 = true ∧ e 0 = true ∧ e 1 = true ∧ e 2 = true ∧ e 3 = true ∧ e 4 = true ∧ e 5 = true ∧ e 6 = true ∧ e 7 = true ∧ e 8 = true ∧ e 9 = true ∧ e 10 = true ∧ e 11 = true ∧ e 12 = true ∧ True from hdn 15 q); obtain ⟨r13, -, -, -, -, -, -, -, -, -, -, -, -, -, -⟩ := (show e 13 = true ∧ e 0 = true ∧ e 1 = true ∧ e 2 = true ∧ e 3 = true ∧ e 4 = true ∧ e 5 = true ∧ e 6 = true ∧ e 7 = true ∧ e 8 = true ∧ e 9 = true ∧ e 10 = true ∧ e 11 = true ∧ e 12 = true ∧ True from hdn 14 r14); obtain ⟨-, r2, -, -, -, -, -, -, -, -, -, -, -, -, -, -⟩ := (show e 1 = true ∧ e 2 = true ∧ e 0 = true ∧ e 1 = true ∧ e 2 = true ∧ e 3 = true ∧ e 4 = true ∧ e 5 = true ∧ e 6 = true ∧ e 7 = true ∧ e 8 = true ∧ e 9 = true ∧ e 10 = true ∧ e 11 = true ∧ e 12 = true ∧ True from hdn 13 r13); exact r2
        simp only [setE, he, h15, cj_t, cj_f, cjn_t, cjn_f, cb_t, cb_f]
        exact U (Mv (V rfl)) <| Nt <| weakS ⟨V rfl, V rfl, V rfl, V rfl, V rfl, V rfl, V rfl, V rfl, V rfl, V rfl, V rfl, V rfl, V rfl, V rfl, V rfl, V rfl, V rfl, V rfl, V rfl, V rfl, Z⟩
       ·intro e hdn he hdp
        have h12 : e 12 = false := fls he fun q => by obtain ⟨r8, -, -, -⟩ := (show e 8 = true ∧ e 9 = true ∧ e 11 = true ∧ True from hdn 12 q); obtain ⟨r7, -⟩ := (show e 7 = true ∧ True from hdn 8 r8); obtain ⟨r6, -⟩ := (show e 6 = true ∧ True from hdn 7 r7); obtain ⟨r4, -, -⟩ := (show e 4 = true ∧ e 5 = true ∧ True from hdn 6 r6); obtain ⟨r3, -⟩ := (show e 3 = true ∧ True from hdn 4 r4); exact r3
        have h15 : e 15 = false := fls he fun q => by obtain ⟨r14, -, -, -, -, -, -, -, -, -, -, -, -, -, -, -, -⟩ := (show e 14 = true ∧ e 12 = true ∧ e 12 = true ∧ e 0 = true ∧ e 1 = true ∧ e 2 = true ∧ e 3 = true ∧ e 4 = true ∧ e 5 = true ∧ e 6 = true ∧ e 7 = true ∧ e 8 = true ∧ e 9 = true ∧ e 10 = true ∧ e 11 = true ∧ e 12 = true ∧ True from hdn 15 q); obtain ⟨r13, -, -, -, -, -, -, -, -, -, -, -, -, -, -⟩ := (show e 13 = true ∧ e 0 = true ∧ e 1 = true ∧ e 2 = true ∧ e 3 = true ∧ e 4 = true ∧ e 5 = true ∧ e 6 = true ∧ e 7 = true ∧ e 8 = true ∧ e 9 = true ∧ e 10 = true ∧ e 11 = true ∧ e 12 = true ∧ True from hdn 14 r14); obtain ⟨-, -, -, -, -, -, -, -, -, -, -, -, -, -, r12, -⟩ := (show e 1 = true ∧ e 2 = true ∧ e 0 = true ∧ e 1 = true ∧ e 2 = true ∧ e 3 = true ∧ e 4 = true ∧ e 5 = true ∧ e 6 = true ∧ e 7 = true ∧ e 8 = true ∧ e 9 = true ∧ e 10 = true ∧ e 11 = true ∧ e 12 = true ∧ True from hdn 13 r13); obtain ⟨r8, -, -, -⟩ := (show e 8 = true ∧ e 9 = true ∧ e 11 = true ∧ True from hdn 12 r12); obtain ⟨r7, -⟩ := (show e 7 = true ∧ True from hdn 8 r8); obtain ⟨r6, -⟩ := (show e 6 = true ∧ True from hdn 7 r7); obtain ⟨r4, -, -⟩ := (show e 4 = true ∧ e 5 = true ∧ True from hdn 6 r6); obtain ⟨r3, -⟩ := (show e 3 = true ∧ True from hdn 4 r4); exact r3
        simp only [setE, he, h12, h15, cj_t, cj_f, cjn_t, cjn_f, cb_t, cb_f]
        refine U (FlB _ _ (V rfl) Un24 rfl 0 Sz22) <| Nt <| We ?_ ?_
        ·exact ⟨V rfl, V rfl, V rfl, V rfl, V rfl, V rfl, V rfl, V rfl, V rfl, V rfl, V rfl, V rfl, Vj, V rfl, V rfl, V rfl, V rfl, V rfl, V rfl, V rfl, Z⟩
        ·exact ⟨⟨_, rfl, ⟨rfl, rfl, (An rfl)⟩⟩, ⟨_, rfl, ⟨rfl, rfl, (An rfl)⟩⟩, ⟨_, rfl, rfl⟩, ⟨_, rfl, rfl⟩, Z⟩
       ·intro e hdn he hdp
        obtain ⟨h3, -⟩ := (show e 3 = true ∧ True from hdp)
        have h12 : e 12 = false := fls he fun q => by obtain ⟨r8, -, -, -⟩ := (show e 8 = true ∧ e 9 = true ∧ e 11 = true ∧ True from hdn 12 q); obtain ⟨r7, -⟩ := (show e 7 = true ∧ True from hdn 8 r8); obtain ⟨r6, -⟩ := (show e 6 = true ∧ True from hdn 7 r7); obtain ⟨r4, -, -⟩ := (show e 4 = true ∧ e 5 = true ∧ True from hdn 6 r6); exact r4
        have h15 : e 15 = false := fls he fun q => by obtain ⟨r14, -, -, -, -, -, -, -, -, -, -, -, -, -, -, -, -⟩ := (show e 14 = true ∧ e 12 = true ∧ e 12 = true ∧ e 0 = true ∧ e 1 = true ∧ e 2 = true ∧ e 3 = true ∧ e 4 = true ∧ e 5 = true ∧ e 6 = true ∧ e 7 = true ∧ e 8 = true ∧ e 9 = true ∧ e 10 = true ∧ e 11 = true ∧ e 12 = true ∧ True from hdn 15 q); obtain ⟨r13, -, -, -, -, -, -, -, -, -, -, -, -, -, -⟩ := (show e 13 = true ∧ e 0 = true ∧ e 1 = true ∧ e 2 = true ∧ e 3 = true ∧ e 4 = true ∧ e 5 = true ∧ e 6 = true ∧ e 7 = true ∧ e 8 = true ∧ e 9 = true ∧ e 10 = true ∧ e 11 = true ∧ e 12 = true ∧ True from hdn 14 r14); obtain ⟨-, -, -, -, -, -, -, -, -, -, -, -, -, -, r12, -⟩ := (show e 1 = true ∧ e 2 = true ∧ e 0 = true ∧ e 1 = true ∧ e 2 = true ∧ e 3 = true ∧ e 4 = true ∧ e 5 = true ∧ e 6 = true ∧ e 7 = true ∧ e 8 = true ∧ e 9 = true ∧ e 10 = true ∧ e 11 = true ∧ e 12 = true ∧ True from hdn 13 r13); obtain ⟨r8, -, -, -⟩ := (show e 8 = true ∧ e 9 = true ∧ e 11 = true ∧ True from hdn 12 r12); obtain ⟨r7, -⟩ := (show e 7 = true ∧ True from hdn 8 r8); obtain ⟨r6, -⟩ := (show e 6 = true ∧ True from hdn 7 r7); obtain ⟨r4, -, -⟩ := (show e 4 = true ∧ e 5 = true ∧ True from hdn 6 r6); exact r4
        simp only [setE, h3, he, h12, h15, cj_t, cj_f, cjn_t, cjn_f, cb_t, cb_f]
        refine U (LdB (V rfl) rfl Ga22 (by decide)) <| Nt <| We ?_ ?_
        ·exact ⟨V rfl, V rfl, V rfl, V rfl, V rfl, V rfl, V rfl, V rfl, V rfl, V rfl, V rfl, V rfl, Vj, V rfl, V rfl, V rfl, V rfl, V rfl, V rfl, V rfl, Z⟩
        ·exact ⟨⟨_, rfl, ⟨rfl, rfl, (An rfl)⟩⟩, ⟨_, rfl, ⟨rfl, rfl, (An rfl)⟩⟩, ⟨_, rfl, rfl⟩, ⟨_, rfl, rfl⟩, Z⟩
       ·intro e hdn he hdp
        have h12 : e 12 = false := fls he fun q => by obtain ⟨r8, -, -, -⟩ := (show e 8 = true ∧ e 9 = true ∧ e 11 = true ∧ True from hdn 12 q); obtain ⟨r7, -⟩ := (show e 7 = true ∧ True from hdn 8 r8); obtain ⟨r6, -⟩ := (show e 6 = true ∧ True from hdn 7 r7); obtain ⟨-, r5, -⟩ := (show e 4 = true ∧ e 5 = true ∧ True from hdn 6 r6); exact r5
        have h15 : e 15 = false := fls he fun q => by obtain ⟨r14, -, -, -, -, -, -, -, -, -, -, -, -, -, -, -, -⟩ := (show e 14 = true ∧ e 12 = true ∧ e 12 = true ∧ e 0 = true ∧ e 1 = true ∧ e 2 = true ∧ e 3 = true ∧ e 4 = true ∧ e 5 = true ∧ e 6 = true ∧ e 7 = true ∧ e 8 = true ∧ e 9 = true ∧ e 10 = true ∧ e 11 = true ∧ e 12 = true ∧ True from hdn 15 q); obtain ⟨r13, -, -, -, -, -, -, -, -, -, -, -, -, -, -⟩ := (show e 13 = true ∧ e 0 = true ∧ e 1 = true ∧ e 2 = true ∧ e 3 = true ∧ e 4 = true ∧ e 5 = true ∧ e 6 = true ∧ e 7 = true ∧ e 8 = true ∧ e 9 = true ∧ e 10 = true ∧ e 11 = true ∧ e 12 = true ∧ True from hdn 14 r14); obtain ⟨-, -, -, -, -, -, -, -, -, -, -, -, -, -, r12, -⟩ := (show e 1 = true ∧ e 2 = true ∧ e 0 = true ∧ e 1 = true ∧ e 2 = true ∧ e 3 = true ∧ e 4 = true ∧ e 5 = true ∧ e 6 = true ∧ e 7 = true ∧ e 8 = true ∧ e 9 = true ∧ e 10 = true ∧ e 11 = true ∧ e 12 = true ∧ True from hdn 13 r13); obtain ⟨r8, -, -, -⟩ := (show e 8 = true ∧ e 9 = true ∧ e 11 = true ∧ True from hdn 12 r12); obtain ⟨r7, -⟩ := (show e 7 = true ∧ True from hdn 8 r8); obtain ⟨r6, -⟩ := (show e 6 = true ∧ True from hdn 7 r7); obtain ⟨-, r5, -⟩ := (show e 4 = true ∧ e 5 = true ∧ True from hdn 6 r6); exact r5
        simp only [setE, he, h12, h15, cj_t, cj_f, cjn_t, cjn_f, cb_t, cb_f]
        refine U (Mv (V rfl)) <| Nt <| We ?_ ?_
        ·exact ⟨V rfl, V rfl, V rfl, V rfl, V rfl, V rfl, V rfl, V rfl, V rfl, V rfl, V rfl, V rfl, Vj, V rfl, V rfl, V rfl, V rfl, V rfl, V rfl, V rfl, Z⟩
        ·exact ⟨⟨_, rfl, ⟨rfl, rfl, (An rfl)⟩⟩, ⟨_, rfl, ⟨rfl, rfl, (An rfl)⟩⟩, ⟨_, rfl, rfl⟩, ⟨_, rfl, rfl⟩, Z⟩
       ·intro e hdn he hdp
        obtain ⟨h4, h5, -⟩ := (show e 4 = true ∧ e 5 = true ∧ True from hdp)
        obtain ⟨h3, -⟩ := (show e 3 = true ∧ True from hdn 4 h4)
        have h12 : e 12 = false := fls he fun q => by obtain ⟨r8, -, -, -⟩ := (show e 8 = true ∧ e 9 = true ∧ e 11 = true ∧ True from hdn 12 q); obtain ⟨r7, -⟩ := (show e 7 = true ∧ True from hdn 8 r8); obtain ⟨r6, -⟩ := (show e 6 = true ∧ True from hdn 7 r7); exact r6
        have h15 : e 15 = false := fls he fun q => by obtain ⟨r14, -, -, -, -, -, -, -, -, -, -, -, -, -, -, -, -⟩ := (show e 14 = true ∧ e 12 = true ∧ e 12 = true ∧ e 0 = true ∧ e 1 = true ∧ e 2 = true ∧ e 3 = true ∧ e 4 = true ∧ e 5 = true ∧ e 6 = true ∧ e 7 = true ∧ e 8 = true ∧ e 9 = true ∧ e 10 = true ∧ e 11 = true ∧ e 12 = true ∧ True from hdn 15 q); obtain ⟨r13, -, -, -, -, -, -, -, -, -, -, -, -, -, -⟩ := (show e 13 = true ∧ e 0 = true ∧ e 1 = true ∧ e 2 = true ∧ e 3 = true ∧ e 4 = true ∧ e 5 = true ∧ e 6 = true ∧ e 7 = true ∧ e 8 = true ∧ e 9 = true ∧ e 10 = true ∧ e 11 = true ∧ e 12 = true ∧ True from hdn 14 r14); obtain ⟨-, -, -, -, -, -, -, -, -, -, -, -, -, -, r12, -⟩ := (show e 1 = true ∧ e 2 = true ∧ e 0 = true ∧ e 1 = true ∧ e 2 = true ∧ e 3 = true ∧ e 4 = true ∧ e 5 = true ∧ e 6 = true ∧ e 7 = true ∧ e 8 = true ∧ e 9 = true ∧ e 10 = true ∧ e 11 = true ∧ e 12 = true ∧ True from hdn 13 r13); obtain ⟨r8, -, -, -⟩ := (show e 8 = true ∧ e 9 = true ∧ e 11 = true ∧ True from hdn 12 r12); obtain ⟨r7, -⟩ := (show e 7 = true ∧ True from hdn 8 r8); obtain ⟨r6, -⟩ := (show e 6 = true ∧ True from hdn 7 r7); exact r6
        simp only [setE, h3, h4, h5, he, h12, h15, cj_t, cj_f, cjn_t, cjn_f, cb_t, cb_f]
        refine U (q_idxU (V rfl) rfl (V rfl) ts22 te22 (by omega) (by first | omega | (simp only [List.length_set]; omega))) <| Nt <| We ?_ ?_
        ·exact ⟨V rfl, V rfl, V rfl, V rfl, V rfl, V rfl, V rfl, V rfl, V rfl, V rfl, V rfl, V rfl, Vj, V rfl, V rfl, V rfl, V rfl, V rfl, V rfl, V rfl, Z⟩
        ·exact ⟨⟨_, rfl, ⟨rfl, rfl, (An rfl)⟩⟩, ⟨_, rfl, ⟨rfl, rfl, (An rfl)⟩⟩, ⟨_, rfl, rfl⟩, ⟨_, rfl, rfl⟩, Z⟩
       ·intro e hdn he hdp
        obtain ⟨h6, -⟩ := (show e 6 = true ∧ True from hdp)
        obtain ⟨h4, h5, -⟩ := (show e 4 = true ∧ e 5 = true ∧ True from hdn 6 h6)
        obtain ⟨h3, -⟩ := (show e 3 = true ∧ True from hdn 4 h4)
        have h12 : e 12 = false := fls he fun q => by obtain ⟨r8, -, -, -⟩ := (show e 8 = true ∧ e 9 = true ∧ e 11 = true ∧ True from hdn 12 q); obtain ⟨r7, -⟩ := (show e 7 = true ∧ True from hdn 8 r8); exact r7
        have h15 : e 15 = false := fls he fun q => by obtain ⟨r14, -, -, -, -, -, -, -, -, -, -, -, -, -, -, -, -⟩ := (show e 14 = true ∧ e 12 = true ∧ e 12 = true ∧ e 0 = true ∧ e 1 = true ∧ e 2 = true ∧ e 3 = true ∧ e 4 = true ∧ e 5 = true ∧ e 6 = true ∧ e 7 = true ∧ e 8 = true ∧ e 9 = true ∧ e 10 = true ∧ e 11 = true ∧ e 12 = true ∧ True from hdn 15 q); obtain ⟨r13, -, -, -, -, -, -, -, -, -, -, -, -, -, -⟩ := (show e 13 = true ∧ e 0 = true ∧ e 1 = true ∧ e 2 = true ∧ e 3 = true ∧ e 4 = true ∧ e 5 = true ∧ e 6 = true ∧ e 7 = true ∧ e 8 = true ∧ e 9 = true ∧ e 10 = true ∧ e 11 = true ∧ e 12 = true ∧ True from hdn 14 r14); obtain ⟨-, -, -, -, -, -, -, -, -, -, -, -, -, -, r12, -⟩ := (show e 1 = true ∧ e 2 = true ∧ e 0 = true ∧ e 1 = true ∧ e 2 = true ∧ e 3 = true ∧ e 4 = true ∧ e 5 = true ∧ e 6 = true ∧ e 7 = true ∧ e 8 = true ∧ e 9 = true ∧ e 10 = true ∧ e 11 = true ∧ e 12 = true ∧ True from hdn 13 r13); obtain ⟨r8, -, -, -⟩ := (show e 8 = true ∧ e 9 = true ∧ e 11 = true ∧ True from hdn 12 r12); obtain ⟨r7, -⟩ := (show e 7 = true ∧ True from hdn 8 r8); exact r7
        simp only [setE, h3, h4, h5, h6, he, h12, h15, cj_t, cj_f, cjn_t, cjn_f, cb_t, cb_f]
        refine U (FlO _ _ (V rfl) Un61 rfl 0 Sz33) <| Nt <| We ?_ ?_
        ·exact ⟨V rfl, V rfl, V rfl, V rfl, V rfl, V rfl, V rfl, V rfl, V rfl, V rfl, V rfl, V rfl, Vj, V rfl, V rfl, V rfl, V rfl, V rfl, V rfl, V rfl, Z⟩
        ·exact ⟨⟨_, rfl, ⟨rfl, rfl, (An rfl)⟩⟩, ⟨_, rfl, ⟨rfl, rfl, (An rfl)⟩⟩, ⟨_, rfl, rfl⟩, ⟨_, rfl, rfl⟩, Z⟩
       ·intro e hdn he hdp
        obtain ⟨h7, -⟩ := (show e 7 = true ∧ True from hdp)
        obtain ⟨h6, -⟩ := (show e 6 = true ∧ True from hdn 7 h7)
        obtain ⟨h4, h5, -⟩ := (show e 4 = true ∧ e 5 = true ∧ True from hdn 6 h6)
        obtain ⟨h3, -⟩ := (show e 3 = true ∧ True from hdn 4 h4)
        have h12 : e 12 = false := fls he fun q => by obtain ⟨r8, -, -, -⟩ := (show e 8 = true ∧ e 9 = true ∧ e 11 = true ∧ True from hdn 12 q); exact r8
        have h15 : e 15 = false := fls he fun q => by obtain ⟨r14, -, -, -, -, -, -, -, -, -, -, -, -, -, -, -, -⟩ := (show e 14 = true ∧ e 12 = true ∧ e 12 = true ∧ e 0 = true ∧ e 1 = true ∧ e 2 = true ∧ e 3 = true ∧ e 4 = true ∧ e 5 = true ∧ e 6 = true ∧ e 7 = true ∧ e 8 = true ∧ e 9 = true ∧ e 10 = true ∧ e 11 = true ∧ e 12 = true ∧ True from hdn 15 q); obtain ⟨r13, -, -, -, -, -, -, -, -, -, -, -, -, -, -⟩ := (show e 13 = true ∧ e 0 = true ∧ e 1 = true ∧ e 2 = true ∧ e 3 = true ∧ e 4 = true ∧ e 5 = true ∧ e 6 = true ∧ e 7 = true ∧ e 8 = true ∧ e 9 = true ∧ e 10 = true ∧ e 11 = true ∧ e 12 = true ∧ True from hdn 14 r14); obtain ⟨-, -, -, -, -, -, -, -, -, -, -, -, -, -, r12, -⟩ := (show e 1 = true ∧ e 2 = true ∧ e 0 = true ∧ e 1 = true ∧ e 2 = true ∧ e 3 = true ∧ e 4 = true ∧ e 5 = true ∧ e 6 = true ∧ e 7 = true ∧ e 8 = true ∧ e 9 = true ∧ e 10 = true ∧ e 11 = true ∧ e 12 = true ∧ True from hdn 13 r13); obtain ⟨r8, -, -, -⟩ := (show e 8 = true ∧ e 9 = true ∧ e 11 = true ∧ True from hdn 12 r12); exact r8
        simp only [setE, h3, h4, h5, h6, h7, he, h12, h15, cj_t, cj_f, cjn_t, cjn_f, cb_t, cb_f]
        refine U (LdU (V rfl) rfl Ga33 (by decide) uat_hole) <| Nt <| We ?_ ?_
        ·exact ⟨V rfl, V rfl, V rfl, V rfl, V rfl, V rfl, V rfl, V rfl, V rfl, V rfl, V rfl, V rfl, Vj, V rfl, V rfl, V rfl, V rfl, V rfl, V rfl, V rfl, Z⟩
        ·exact ⟨⟨_, rfl, ⟨rfl, rfl, (An rfl)⟩⟩, ⟨_, rfl, ⟨rfl, rfl, (An rfl)⟩⟩, ⟨_, rfl, rfl⟩, ⟨_, rfl, rfl⟩, Z⟩
       ·intro e hdn he hdp
        have h12 : e 12 = false := fls he fun q => by obtain ⟨-, r9, -, -⟩ := (show e 8 = true ∧ e 9 = true ∧ e 11 = true ∧ True from hdn 12 q); exact r9
        have h15 : e 15 = false := fls he fun q => by obtain ⟨r14, -, -, -, -, -, -, -, -, -, -, -, -, -, -, -, -⟩ := (show e 14 = true ∧ e 12 = true ∧ e 12 = true ∧ e 0 = true ∧ e 1 = true ∧ e 2 = true ∧ e 3 = true ∧ e 4 = true ∧ e 5 = true ∧ e 6 = true ∧ e 7 = true ∧ e 8 = true ∧ e 9 = true ∧ e 10 = true ∧ e 11 = true ∧ e 12 = true ∧ True from hdn 15 q); obtain ⟨r13, -, -, -, -, -, -, -, -, -, -, -, -, -, -⟩ := (show e 13 = true ∧ e 0 = true ∧ e 1 = true ∧ e 2 = true ∧ e 3 = true ∧ e 4 = true ∧ e 5 = true ∧ e 6 = true ∧ e 7 = true ∧ e 8 = true ∧ e 9 = true ∧ e 10 = true ∧ e 11 = true ∧ e 12 = true ∧ True from hdn 14 r14); obtain ⟨-, -, -, -, -, -, -, -, -, -, -, -, -, -, r12, -⟩ := (show e 1 = true ∧ e 2 = true ∧ e 0 = true ∧ e 1 = true ∧ e 2 = true ∧ e 3 = true ∧ e 4 = true ∧ e 5 = true ∧ e 6 = true ∧ e 7 = true ∧ e 8 = true ∧ e 9 = true ∧ e 10 = true ∧ e 11 = true ∧ e 12 = true ∧ True from hdn 13 r13); obtain ⟨-, r9, -, -⟩ := (show e 8 = true ∧ e 9 = true ∧ e 11 = true ∧ True from hdn 12 r12); exact r9
        simp only [setE, he, h12, h15, cj_t, cj_f, cjn_t, cjn_f, cb_t, cb_f]
        refine U (Mv (V rfl)) <| Nt <| We ?_ ?_
        ·exact ⟨V rfl, V rfl, V rfl, V rfl, V rfl, V rfl, V rfl, V rfl, V rfl, V rfl, V rfl, V rfl, Vj, V rfl, V rfl, V rfl, V rfl, V rfl, V rfl, V rfl, Z⟩
        ·exact ⟨⟨_, rfl, ⟨rfl, rfl, (An rfl)⟩⟩, ⟨_, rfl, ⟨rfl, rfl, (An rfl)⟩⟩, ⟨_, rfl, rfl⟩, ⟨_, rfl, rfl⟩, Z⟩
       ·intro e hdn he hdp
        have h12 : e 12 = false := fls he fun q => by obtain ⟨-, -, r11, -⟩ := (show e 8 = true ∧ e 9 = true ∧ e 11 = true ∧ True from hdn 12 q); obtain ⟨r10, -⟩ := (show e 10 = true ∧ True from hdn 11 r11); exact r10
        have h15 : e 15 = false := fls he fun q => by obtain ⟨r14, -, -, -, -, -, -, -, -, -, -, -, -, -, -, -, -⟩ := (show e 14 = true ∧ e 12 = true ∧ e 12 = true ∧ e 0 = true ∧ e 1 = true ∧ e 2 = true ∧ e 3 = true ∧ e 4 = true ∧ e 5 = true ∧ e 6 = true ∧ e 7 = true ∧ e 8 = true ∧ e 9 = true ∧ e 10 = true ∧ e 11 = true ∧ e 12 = true ∧ True from hdn 15 q); obtain ⟨r13, -, -, -, -, -, -, -, -, -, -, -, -, -, -⟩ := (show e 13 = true ∧ e 0 = true ∧ e 1 = true ∧ e 2 = true ∧ e 3 = true ∧ e 4 = true ∧ e 5 = true ∧ e 6 = true ∧ e 7 = true ∧ e 8 = true ∧ e 9 = true ∧ e 10 = true ∧ e 11 = true ∧ e 12 = true ∧ True from hdn 14 r14); obtain ⟨-, -, -, -, -, -, -, -, -, -, -, -, -, -, r12, -⟩ := (show e 1 = true ∧ e 2 = true ∧ e 0 = true ∧ e 1 = true ∧ e 2 = true ∧ e 3 = true ∧ e 4 = true ∧ e 5 = true ∧ e 6 = true ∧ e 7 = true ∧ e 8 = true ∧ e 9 = true ∧ e 10 = true ∧ e 11 = true ∧ e 12 = true ∧ True from hdn 13 r13); obtain ⟨-, -, r11, -⟩ := (show e 8 = true ∧ e 9 = true ∧ e 11 = true ∧ True from hdn 12 r12); obtain ⟨r10, -⟩ := (show e 10 = true ∧ True from hdn 11 r11); exact r10
        simp only [setE, he, h12, h15, cj_t, cj_f, cjn_t, cjn_f, cb_t, cb_f]
        refine U (Mv (V rfl)) <| Nt <| We ?_ ?_
        ·exact ⟨V rfl, V rfl, V rfl, V rfl, V rfl, V rfl, V rfl, V rfl, V rfl, V rfl, V rfl, V rfl, Vj, V rfl, V rfl, V rfl, V rfl, V rfl, V rfl, V rfl, Z⟩
        ·exact ⟨⟨_, rfl, ⟨rfl, rfl, (An rfl)⟩⟩, ⟨_, rfl, ⟨rfl, rfl, (An rfl)⟩⟩, ⟨_, rfl, rfl⟩, ⟨_, rfl, rfl⟩, Z⟩
       ·intro e hdn he hdp
        obtain ⟨h10, -⟩ := (show e 10 = true ∧ True from hdp)
        have h12 : e 12 = false := fls he fun q => by obtain ⟨-, -, r11, -⟩ := (show e 8 = true ∧ e 9 = true ∧ e 11 = true ∧ True from hdn 12 q); exact r11
        have h15 : e 15 = false := fls he fun q => by obtain ⟨r14, -, -, -, -, -, -, -, -, -, -, -, -, -, -, -, -⟩ := (show e 14 = true ∧ e 12 = true ∧ e 12 = true ∧ e 0 = true ∧ e 1 = true ∧ e 2 = true ∧ e 3 = true ∧ e 4 = true ∧ e 5 = true ∧ e 6 = true ∧ e 7 = true ∧ e 8 = true ∧ e 9 = true ∧ e 10 = true ∧ e 11 = true ∧ e 12 = true ∧ True from hdn 15 q); obtain ⟨r13, -, -, -, -, -, -, -, -, -, -, -, -, -, -⟩ := (show e 13 = true ∧ e 0 = true ∧ e 1 = true ∧ e 2 = true ∧ e 3 = true ∧ e 4 = true ∧ e 5 = true ∧ e 6 = true ∧ e 7 = true ∧ e 8 = true ∧ e 9 = true ∧ e 10 = true ∧ e 11 = true ∧ e 12 = true ∧ True from hdn 14 r14); obtain ⟨-, -, -, -, -, -, -, -, -, -, -, -, -, -, r12, -⟩ := (show e 1 = true ∧ e 2 = true ∧ e 0 = true ∧ e 1 = true ∧ e 2 = true ∧ e 3 = true ∧ e 4 = true ∧ e 5 = true ∧ e 6 = true ∧ e 7 = true ∧ e 8 = true ∧ e 9 = true ∧ e 10 = true ∧ e 11 = true ∧ e 12 = true ∧ True from hdn 13 r13); obtain ⟨-, -, r11, -⟩ := (show e 8 = true ∧ e 9 = true ∧ e 11 = true ∧ True from hdn 12 r12); exact r11
        simp only [setE, h10, he, h12, h15, cj_t, cj_f, cjn_t, cjn_f, cb_t, cb_f]
        refine Uw (w_bs (n := 1) (zget := fun _ => iv 0) [(fun _ => iv (c.pl))] (rowG inCell 0 [c.pl]) Un33 Sz3 zero3 (by decide) rfl (by decide) ⟨⟨rfl, .inr ⟨rfl, (V rfl), rfl⟩, rfl⟩, Z⟩ ⟨Z, ⟨Z, rfl⟩⟩) <| Nt <| We ?_ ?_
        ·exact ⟨V rfl, V rfl, V rfl, V rfl, V rfl, V rfl, V rfl, V rfl, V rfl, V rfl, V rfl, V rfl, Vj, V rfl, V rfl, V rfl, V rfl, V rfl, V rfl, V rfl, Z⟩
        ·exact ⟨⟨_, rfl, ⟨rfl, rfl, (An rfl)⟩⟩, ⟨_, rfl, ⟨rfl, rfl, (An rfl)⟩⟩, ⟨_, rfl, rfl⟩, ⟨_, rfl, rfl⟩, Z⟩
       ·intro e hdn he hdp
        obtain ⟨h8, h9, h11, -⟩ := (show e 8 = true ∧ e 9 = true ∧ e 11 = true ∧ True from hdp)
        obtain ⟨h10, -⟩ := (show e 10 = true ∧ True from hdn 11 h11)
        obtain ⟨h7, -⟩ := (show e 7 = true ∧ True from hdn 8 h8)
        obtain ⟨h6, -⟩ := (show e 6 = true ∧ True from hdn 7 h7)
        obtain ⟨h4, h5, -⟩ := (show e 4 = true ∧ e 5 = true ∧ True from hdn 6 h6)
        obtain ⟨h3, -⟩ := (show e 3 = true ∧ True from hdn 4 h4)
        have h13 : e 13 = false := fls he fun q => by obtain ⟨-, -, -, -, -, -, -, -, -, -, -, -, -, -, r12, -⟩ := (show e 1 = true ∧ e 2 = true ∧ e 0 = true ∧ e 1 = true ∧ e 2 = true ∧ e 3 = true ∧ e 4 = true ∧ e 5 = true ∧ e 6 = true ∧ e 7 = true ∧ e 8 = true ∧ e 9 = true ∧ e 10 = true ∧ e 11 = true ∧ e 12 = true ∧ True from hdn 13 q); exact r12
        have h14 : e 14 = false := fls he fun q => by obtain ⟨r13, -, -, -, -, -, -, -, -, -, -, -, -, -, -⟩ := (show e 13 = true ∧ e 0 = true ∧ e 1 = true ∧ e 2 = true ∧ e 3 = true ∧ e 4 = true ∧ e 5 = true ∧ e 6 = true ∧ e 7 = true ∧ e 8 = true ∧ e 9 = true ∧ e 10 = true ∧ e 11 = true ∧ e 12 = true ∧ True from hdn 14 q); obtain ⟨-, -, -, -, -, -, -, -, -, -, -, -, -, -, r12, -⟩ := (show e 1 = true ∧ e 2 = true ∧ e 0 = true ∧ e 1 = true ∧ e 2 = true ∧ e 3 = true ∧ e 4 = true ∧ e 5 = true ∧ e 6 = true ∧ e 7 = true ∧ e 8 = true ∧ e 9 = true ∧ e 10 = true ∧ e 11 = true ∧ e 12 = true ∧ True from hdn 13 r13); exact r12
        have h15 : e 15 = false := fls he fun q => by obtain ⟨r14, -, -, -, -, -, -, -, -, -, -, -, -, -, -, -, -⟩ := (show e 14 = true ∧ e 12 = true ∧ e 12 = true ∧ e 0 = true ∧ e 1 = true ∧ e 2 = true ∧ e 3 = true ∧ e 4 = true ∧ e 5 = true ∧ e 6 = true ∧ e 7 = true ∧ e 8 = true ∧ e 9 = true ∧ e 10 = true ∧ e 11 = true ∧ e 12 = true ∧ True from hdn 15 q); obtain ⟨r13, -, -, -, -, -, -, -, -, -, -, -, -, -, -⟩ := (show e 13 = true ∧ e 0 = true ∧ e 1 = true ∧ e 2 = true ∧ e 3 = true ∧ e 4 = true ∧ e 5 = true ∧ e 6 = true ∧ e 7 = true ∧ e 8 = true ∧ e 9 = true ∧ e 10 = true ∧ e 11 = true ∧ e 12 = true ∧ True from hdn 14 r14); obtain ⟨-, -, -, -, -, -, -, -, -, -, -, -, -, -, r12, -⟩ := (show e 1 = true ∧ e 2 = true ∧ e 0 = true ∧ e 1 = true ∧ e 2 = true ∧ e 3 = true ∧ e 4 = true ∧ e 5 = true ∧ e 6 = true ∧ e 7 = true ∧ e 8 = true ∧ e 9 = true ∧ e 10 = true ∧ e 11 = true ∧ e 12 = true ∧ True from hdn 13 r13); exact r12
        simp only [setE, h3, h4, h5, h6, h7, h8, h9, h10, h11, he, h13, h14, h15, cj_t, cj_f, cjn_t, cjn_f, cb_t, cb_f]
        refine CM (cargs := [SV.own 1000, iv (((Nd.kids ((outSt l c.pl).getD (Int.toNat p.pl) default)).length : Int)), inRow ([c.pl])]) [(1000, 10)] [(0, 12)] en98 (by exact ⟨(V rfl), (V rfl), (V rfl), Z⟩) (ins_ct (Nd.kids ((outSt l c.pl).getD (Int.toNat p.pl) default)) ([c.pl]) ((Nd.kids ((outSt l c.pl).getD (Int.toNat p.pl) default)).length) (by first | omega | assumption) (by first | omega | (simp only [List.length_cons, List.length_nil]; omega) | assumption)) (by exact ⟨⟨_, rfl, rfl⟩, Z⟩) rfl (freshN_cons (fresh_mk ⟨(noId_cj rfl), (noId_cj rfl), (noId_cj rfl), rfl, rfl, rfl, rfl, rfl, rfl, rfl, rfl, rfl, rfl, rfl, rfl, rfl, rfl, rfl, rfl, rfl, Z⟩ rfl rfl) rfl rfl) rfl rfl <| Nt <| We ?_ ?_
        ·exact ⟨V rfl, V rfl, V rfl, V rfl, V rfl, V rfl, V rfl, V rfl, V rfl, V rfl, V rfl, V rfl, V rfl, Vj, Vj, V rfl, V rfl, V rfl, V rfl, V rfl, Z⟩
        ·exact ⟨⟨_, rfl, ⟨rfl, rfl, (An rfl)⟩⟩, ⟨_, rfl, ⟨rfl, rfl, (An rfl)⟩⟩, ⟨_, rfl, rfl⟩, ⟨_, rfl, rfl⟩, Z⟩
       ·intro e hdn he hdp
        obtain ⟨h1, h2, h0, -, -, h3, h4, h5, h6, h7, h8, h9, h10, h11, h12, -⟩ := (show e 1 = true ∧ e 2 = true ∧ e 0 = true ∧ e 1 = true ∧ e 2 = true ∧ e 3 = true ∧ e 4 = true ∧ e 5 = true ∧ e 6 = true ∧ e 7 = true ∧ e 8 = true ∧ e 9 = true ∧ e 10 = true ∧ e 11 = true ∧ e 12 = true ∧ True from hdp)
        have h15 : e 15 = false := fls he fun q => by obtain ⟨r14, -, -, -, -, -, -, -, -, -, -, -, -, -, -, -, -⟩ := (show e 14 = true ∧ e 12 = true ∧ e 12 = true ∧ e 0 = true ∧ e 1 = true ∧ e 2 = true ∧ e 3 = true ∧ e 4 = true ∧ e 5 = true ∧ e 6 = true ∧ e 7 = true ∧ e 8 = true ∧ e 9 = true ∧ e 10 = true ∧ e 11 = true ∧ e 12 = true ∧ True from hdn 15 q); obtain ⟨r13, -, -, -, -, -, -, -, -, -, -, -, -, -, -⟩ := (show e 13 = true ∧ e 0 = true ∧ e 1 = true ∧ e 2 = true ∧ e 3 = true ∧ e 4 = true ∧ e 5 = true ∧ e 6 = true ∧ e 7 = true ∧ e 8 = true ∧ e 9 = true ∧ e 10 = true ∧ e 11 = true ∧ e 12 = true ∧ True from hdn 14 r14); exact r13
        simp only [setE, h0, h1, h2, h3, h4, h5, h6, h7, h8, h9, h10, h11, h12, he, h15, cj_t, cj_f, cjn_t, cjn_f, cb_t, cb_f]
        refine U (q_idxU (V rfl) rfl (V rfl) ts22 te22 (by omega) (by first | omega | (simp only [List.length_set]; omega))) <| Nt <| We ?_ ?_
        ·exact ⟨V rfl, V rfl, V rfl, V rfl, V rfl, V rfl, V rfl, V rfl, V rfl, V rfl, V rfl, V rfl, V rfl, V rfl, V rfl, V rfl, V rfl, V rfl, V rfl, V rfl, Z⟩
        ·exact ⟨⟨_, rfl, ⟨rfl, rfl, (An rfl)⟩⟩, ⟨_, rfl, ⟨rfl, rfl, (An rfl)⟩⟩, ⟨_, rfl, rfl⟩, ⟨_, rfl, rfl⟩, Z⟩
       ·intro e hdn he hdp
        obtain ⟨h13, h0, h1, h2, h3, h4, h5, h6, h7, h8, h9, h10, h11, h12, -⟩ := (show e 13 = true ∧ e 0 = true ∧ e 1 = true ∧ e 2 = true ∧ e 3 = true ∧ e 4 = true ∧ e 5 = true ∧ e 6 = true ∧ e 7 = true ∧ e 8 = true ∧ e 9 = true ∧ e 10 = true ∧ e 11 = true ∧ e 12 = true ∧ True from hdp)
        have h15 : e 15 = false := fls he fun q => by obtain ⟨r14, -, -, -, -, -, -, -, -, -, -, -, -, -, -, -, -⟩ := (show e 14 = true ∧ e 12 = true ∧ e 12 = true ∧ e 0 = true ∧ e 1 = true ∧ e 2 = true ∧ e 3 = true ∧ e 4 = true ∧ e 5 = true ∧ e 6 = true ∧ e 7 = true ∧ e 8 = true ∧ e 9 = true ∧ e 10 = true ∧ e 11 = true ∧ e 12 = true ∧ True from hdn 15 q); exact r14
        simp only [setE, h0, h1, h2, h3, h4, h5, h6, h7, h8, h9, h10, h11, h12, h13, he, h15, cj_t, cj_f, cjn_t, cjn_f, cb_t, cb_f]
        refine U (FlO _ _ (V rfl) Un61 rfl 0 Sz33) <| Nt <| We ?_ ?_
        ·exact ⟨V rfl, V rfl, V rfl, V rfl, V rfl, V rfl, V rfl, V rfl, V rfl, V rfl, V rfl, V rfl, V rfl, V rfl, V rfl, V rfl, V rfl, V rfl, V rfl, V rfl, Z⟩
        ·exact ⟨⟨_, rfl, ⟨rfl, rfl, (An rfl)⟩⟩, ⟨_, rfl, ⟨rfl, rfl, (An rfl)⟩⟩, ⟨_, rfl, rfl⟩, ⟨_, rfl, rfl⟩, Z⟩
       ·intro e hdn he hdp
        obtain ⟨h14, h12, -, h0, h1, h2, h3, h4, h5, h6, h7, h8, h9, h10, h11, -, -⟩ := (show e 14 = true ∧ e 12 = true ∧ e 12 = true ∧ e 0 = true ∧ e 1 = true ∧ e 2 = true ∧ e 3 = true ∧ e 4 = true ∧ e 5 = true ∧ e 6 = true ∧ e 7 = true ∧ e 8 = true ∧ e 9 = true ∧ e 10 = true ∧ e 11 = true ∧ e 12 = true ∧ True from hdp)
        obtain ⟨h13, -, -, -, -, -, -, -, -, -, -, -, -, -, -⟩ := (show e 13 = true ∧ e 0 = true ∧ e 1 = true ∧ e 2 = true ∧ e 3 = true ∧ e 4 = true ∧ e 5 = true ∧ e 6 = true ∧ e 7 = true ∧ e 8 = true ∧ e 9 = true ∧ e 10 = true ∧ e 11 = true ∧ e 12 = true ∧ True from hdn 14 h14)
        simp only [setE, h0, h1, h2, h3, h4, h5, h6, h7, h8, h9, h10, h11, h12, h13, h14, he, cj_t, cj_f, cjn_t, cjn_f, cb_t, cb_f]
        refine t_stH (V rfl) rfl (V rfl) (one_own rfl) Sz33 (by decide) (.inl rfl) <| Nt <| We ?_ ?_
        ·exact ⟨V rfl, V rfl, V rfl, V rfl, V rfl, V rfl, V rfl, V rfl, V rfl, V rfl, V rfl, V rfl, V rfl, V rfl, V rfl, V rfl, V rfl, V rfl, V rfl, V rfl, Z⟩
        ·exact ⟨⟨_, rfl, ⟨rfl, rfl, (An rfl)⟩⟩, ⟨_, rfl, ⟨rfl, rfl, (An rfl)⟩⟩, ⟨_, rfl, rfl⟩, ⟨_, rfl, rfl⟩, Z⟩
       ·intro e he
        have h0 := he 0 (by decide)
        have h1 := he 1 (by decide)
        have h2 := he 2 (by decide)
        have h3 := he 3 (by decide)
        have h4 := he 4 (by decide)
        have h5 := he 5 (by decide)
        have h6 := he 6 (by decide)
        have h7 := he 7 (by decide)
        have h8 := he 8 (by decide)
        have h9 := he 9 (by decide)
        have h10 := he 10 (by decide)
        have h11 := he 11 (by decide)
        have h12 := he 12 (by decide)
        have h13 := he 13 (by decide)
        have h14 := he 14 (by decide)
        have h15 := he 15 (by decide)
        show Weak _ ⟨[(102, cj (e 0) (SV.bp 1 0)), (103, cj (e 1) (SV.own 9)), (104, cj (e 2) (iv (p.pl))), (105, cj (e 3) (SV.bp 1 0)), (106, cj (e 4) (SV.own 9)), (107, cj (e 5) (iv (p.pl))), (108, cj (e 6) (SV.oe 9 8 (Int.toNat p.pl) 0)), (109, cj (e 7) (SV.oe 9 8 (Int.toNat p.pl) 5)), (110, cj (e 8) (SV.own 10)), (111, cj (e 9) (iv (((Nd.kids ((outSt l c.pl).getD (Int.toNat p.pl) default)).length : Int)))), (112, cj (e 10) (iv (c.pl))), (113, cj (e 11) (inRow ([c.pl]))), (114, cj (e 12) (SV.own 12)), (115, cj (e 13) (SV.oe 9 8 (Int.toNat p.pl) 0)), (116, cj (e 14) (SV.oe 9 8 (Int.toNat p.pl) 5)), (4, SV.bp 1 0), (8, SV.bp 4 0), (11, iv (p.pl)), (12, iv (c.pl)), (13, iv (((Nd.kids ((outSt l c.pl).getD (Int.toNat p.pl) default)).length : Int)))], (cb (e 12) (cb (e 15) [(1, Own.box 1 (fun zt => SV.renm (rn [(1000, 1), (1001, 8), (0, 9)]) ((cmpG [SV.own 0]) zt)) 24), (4, Own.box 1 (cmpG [SV.v (Value.slice none 0 0)]) 24), (9, urowOf ndCell 8 default (outSt l c.pl) 61 5 Nd.kids inCell 1 0 3 l.length (some (Int.toNat p.pl, SV.own 12))), (12, ownOf inCell 1 0 ((Nd.kids ((outSt l c.pl).getD (Int.toNat p.pl) default)).take ((Nd.kids ((outSt l c.pl).getD (Int.toNat p.pl) default)).length) ++ ([c.pl]) ++ (Nd.kids ((outSt l c.pl).getD (Int.toNat p.pl) default)).drop ((Nd.kids ((outSt l c.pl).getD (Int.toNat p.pl) default)).length)) 3)] [(1, Own.box 1 (fun zt => SV.renm (rn [(1000, 1), (1001, 8), (0, 9)]) ((cmpG [SV.own 0]) zt)) 24), (4, Own.box 1 (cmpG [SV.v (Value.slice none 0 0)]) 24), (9, urowOf ndCell 8 default (outSt l c.pl) 61 5 Nd.kids inCell 1 0 3 l.length (some (Int.toNat p.pl, SV.own 10))), (12, ownOf inCell 1 0 ((Nd.kids ((outSt l c.pl).getD (Int.toNat p.pl) default)).take ((Nd.kids ((outSt l c.pl).getD (Int.toNat p.pl) default)).length) ++ ([c.pl]) ++ (Nd.kids ((outSt l c.pl).getD (Int.toNat p.pl) default)).drop ((Nd.kids ((outSt l c.pl).getD (Int.toNat p.pl) default)).length)) 3)]) (cb (e 15) [] [(1, Own.box 1 (fun zt => SV.renm (rn [(1000, 1), (1001, 8), (0, 9)]) ((cmpG [SV.own 0]) zt)) 24), (4, Own.box 1 (cmpG [SV.v (Value.slice none 0 0)]) 24), (9, urowOf ndCell 8 default (outSt l c.pl) 61 5 Nd.kids inCell 1 0 3 l.length (some (Int.toNat p.pl, SV.own 10))), (10, ownOf inCell 1 0 (Nd.kids ((outSt l c.pl).getD (Int.toNat p.pl) default)) 3)]))⟩ _
        simp only [h0, h1, h2, h3, h4, h5, h6, h7, h8, h9, h10, h11, h12, h13, h14, h15]
        show Weak _ ⟨[(102, SV.bp 1 0), (103, SV.own 9), (104, iv (p.pl)), (105, SV.bp 1 0), (106, SV.own 9), (107, iv (p.pl)), (108, SV.oe 9 8 (Int.toNat p.pl) 0), (109, SV.oe 9 8 (Int.toNat p.pl) 5), (110, SV.own 10), (111, iv (((Nd.kids ((outSt l c.pl).getD (Int.toNat p.pl) default)).length : Int))), (112, iv (c.pl)), (113, inRow ([c.pl])), (114, SV.own 12), (115, SV.oe 9 8 (Int.toNat p.pl) 0), (116, SV.oe 9 8 (Int.toNat p.pl) 5), (4, SV.bp 1 0), (8, SV.bp 4 0), (11, iv (p.pl)), (12, iv (c.pl)), (13, iv (((Nd.kids ((outSt l c.pl).getD (Int.toNat p.pl) default)).length : Int)))], [(1, Own.box 1 (fun zt => SV.renm (rn [(1000, 1), (1001, 8), (0, 9)]) ((cmpG [SV.own 0]) zt)) 24), (4, Own.box 1 (cmpG [SV.v (Value.slice none 0 0)]) 24), (9, urowOf ndCell 8 default (outSt l c.pl) 61 5 Nd.kids inCell 1 0 3 l.length (some (Int.toNat p.pl, SV.own 12))), (12, ownOf inCell 1 0 ((Nd.kids ((outSt l c.pl).getD (Int.toNat p.pl) default)).take ((Nd.kids ((outSt l c.pl).getD (Int.toNat p.pl) default)).length) ++ ([c.pl]) ++ (Nd.kids ((outSt l c.pl).getD (Int.toNat p.pl) default)).drop ((Nd.kids ((outSt l c.pl).getD (Int.toNat p.pl) default)).length)) 3)]⟩ _
        refine We ?_ ?_
        ·exact ⟨V rfl, V rfl, V rfl, V rfl, V rfl, V rfl, V rfl, V rfl, V rfl, V rfl, V rfl, V rfl, V rfl, V rfl, V rfl, V rfl, V rfl, V rfl, V rfl, V rfl, Z⟩
        ·exact ⟨⟨_, rfl, ⟨rfl, rfl, (An rfl)⟩⟩, ⟨_, rfl, ⟨rfl, rfl, (An rfl)⟩⟩, ⟨_, rfl, rfl⟩, ⟨_, rfl, rfl⟩, Z⟩
       exact Sq <| Tc (turn_joinT 9 (Int.toNat p.pl) 12 l.length ({ ((outSt l c.pl).getD (Int.toNat p.pl) default) with kids := (Nd.kids ((outSt l c.pl).getD (Int.toNat p.pl) default)).take ((Nd.kids ((outSt l c.pl).getD (Int.toNat p.pl) default)).length) ++ ([c.pl]) ++ (Nd.kids ((outSt l c.pl).getD (Int.toNat p.pl) default)).drop ((Nd.kids ((outSt l c.pl).getD (Int.toNat p.pl) default)).length) }) rfl rfl rfl (by first | omega | (simp only [List.length_set]; omega)) (by omega) (by rw [if_pos (by omega)]) rfl rfl (fun t ht hne => match t, ht, hne with | 0, _, _ => rfl | 1, _, _ => rfl | 2, _, _ => rfl | 3, _, _ => rfl | 4, _, _ => rfl | 5, _, hne => absurd rfl hne | 6, _, _ => rfl | 7, _, _ => rfl) rfl) <| Rt <| U (FlB _ _ (V rfl) Un24 rfl 0 Sz22) <| U (LdB (V rfl) rfl Ga22 (by decide)) <| U (Mv (V rfl)) <| U (Mv (V rfl)) <| U (q_idxU (V rfl) rfl (V rfl) ts22 te22 (by omega) (by first | omega | (simp only [List.length_set]; omega))) <| U (FlO _ _ (V rfl) Un61 rfl 0 Sz3) <| t_stUT ({ (((outSt l c.pl).set (Int.toNat p.pl) ({ ((outSt l c.pl).getD (Int.toNat p.pl) default) with kids := (Nd.kids ((outSt l c.pl).getD (Int.toNat p.pl) default)).take ((Nd.kids ((outSt l c.pl).getD (Int.toNat p.pl) default)).length) ++ ([c.pl]) ++ (Nd.kids ((outSt l c.pl).getD (Int.toNat p.pl) default)).drop ((Nd.kids ((outSt l c.pl).getD (Int.toNat p.pl) default)).length) })).getD (Int.toNat c.pl) default) with par := p.pl }) (V rfl) rfl (V rfl) rfl rfl Sz3 (by decide) (by decide) (by first | omega | (simp only [List.length_set]; omega)) rfl (fun t ht hne => match t, ht, hne with | 0, _, _ => rfl | 1, _, _ => rfl | 2, _, _ => rfl | 3, _, _ => rfl | 4, _, hne => absurd rfl hne | 5, _, _ => rfl | 6, _, _ => rfl | 7, _, _ => rfl) rfl <| Nt <| Sq <| Rt <| U (LBA (V rfl) rfl Ga24 Sz24 (by decide)) <| StA (V rfl) rfl (V rfl) Sz24 <| U (As K) <| Nt <| Tc (turn_uAT 9 rfl rfl (fun _ => rfl)) <| FzC 9 rfl <| Rx <| RR2 rfl (rv_aggI (g' := stG (((outSt l c.pl).set (Int.toNat p.pl) ({ ((outSt l c.pl).getD (Int.toNat p.pl) default) with kids := (Nd.kids ((outSt l c.pl).getD (Int.toNat p.pl) default)).take ((Nd.kids ((outSt l c.pl).getD (Int.toNat p.pl) default)).length) ++ ([c.pl]) ++ (Nd.kids ((outSt l c.pl).getD (Int.toNat p.pl) default)).drop ((Nd.kids ((outSt l c.pl).getD (Int.toNat p.pl) default)).length) })).set (Int.toNat c.pl) ({ (((outSt l c.pl).set (Int.toNat p.pl) ({ ((outSt l c.pl).getD (Int.toNat p.pl) default) with kids := (Nd.kids ((outSt l c.pl).getD (Int.toNat p.pl) default)).take ((Nd.kids ((outSt l c.pl).getD (Int.toNat p.pl) default)).length) ++ ([c.pl]) ++ (Nd.kids ((outSt l c.pl).getD (Int.toNat p.pl) default)).drop ((Nd.kids ((outSt l c.pl).getD (Int.toNat p.pl) default)).length) })).getD (Int.toNat c.pl) default) with par := p.pl }))) (rv_cell (V rfl) rfl Ga24 Sz24) ⟨Z, Ir⟩) (rv_tmp (V rfl)) rfl rfl (by show sv2 (SV.agg 1 (stG (((outSt l c.pl).set (Int.toNat p.pl) ({ ((outSt l c.pl).getD (Int.toNat p.pl) default) with kids := (Nd.kids ((outSt l c.pl).getD (Int.toNat p.pl) default)).take ((Nd.kids ((outSt l c.pl).getD (Int.toNat p.pl) default)).length) ++ ([c.pl]) ++ (Nd.kids ((outSt l c.pl).getD (Int.toNat p.pl) default)).drop ((Nd.kids ((outSt l c.pl).getD (Int.toNat p.pl) default)).length) })).set (Int.toNat c.pl) ({ (((outSt l c.pl).set (Int.toNat p.pl) ({ ((outSt l c.pl).getD (Int.toNat p.pl) default) with kids := (Nd.kids ((outSt l c.pl).getD (Int.toNat p.pl) default)).take ((Nd.kids ((outSt l c.pl).getD (Int.toNat p.pl) default)).length) ++ ([c.pl]) ++ (Nd.kids ((outSt l c.pl).getD (Int.toNat p.pl) default)).drop ((Nd.kids ((outSt l c.pl).getD (Int.toNat p.pl) default)).length) })).getD (Int.toNat c.pl) default) with par := p.pl })))) (iv (0)) = sv2 (SV.agg 1 (stG (insSt l p c ah).1)) (iv (insSt l p c ah).2); rw [ins_6 (by omega) hc2s hq3 hq4 hq5, insPos, if_neg (by omega)]; rfl)
end Go.Proofs.Ytmcdamcedemdiaa
namespace Go.Proofs.Ytmcdamcedemdiaa
open Go.RowKit Go.Eng
theorem zero113 : ZeroOk Try.prog 113 6 (cmpG [iv 0, iv 0, iv 0, iv 0, iv 0, iv 0]) := by
  refine ⟨.agg #[.int .i64 0, .int .i64 0, .int .i64 0, .int .i64 0, .int .i64 0, .int .i64 0], fun w => by kernel_rfl, rfl, fun t ht => ?_⟩
  match t, ht with
  | 0, _ => exact ⟨_, rfl, rfl, fun _ _ => rfl⟩
  | 1, _ => exact ⟨_, rfl, rfl, fun _ _ => rfl⟩
  | 2, _ => exact ⟨_, rfl, rfl, fun _ _ => rfl⟩
  | 3, _ => exact ⟨_, rfl, rfl, fun _ _ => rfl⟩
  | 4, _ => exact ⟨_, rfl, rfl, fun _ _ => rfl⟩
  | 5, _ => exact ⟨_, rfl, rfl, fun _ _ => rfl⟩
theorem ta113 : Try.prog.underlying 113 = some (.array (Try.prog.arrayLen 113) (Try.prog.elem 113)) := by kernel_rfl
theorem te113 : ∀ w, (sizeOf (Try.prog.elem 113)).run Try.prog w = .ok 2 w := fun w => by kernel_rfl
theorem al113 : Try.prog.arrayLen 113 = 3 := by kernel_rfl
def nz : Nd := ⟨false, 0, 0, 0, -1, [], -1, false⟩
def fam0 : List Nd := [nz, nz, nz, nz, nz, nz]
def fam1 : List Nd := [⟨true, 1, 0, 0, -1, [], -1, false⟩, nz, nz, nz, nz, nz]
def fam2 : List Nd := [⟨true, 1, 0, 0, -1, [], -1, false⟩, ⟨true, 1, 1, 0, -1, [], -1, false⟩, nz, nz, nz, nz]
def fam3 : List Nd := [⟨true, 1, 0, 0, -1, [], -1, false⟩, ⟨true, 1, 1, 0, -1, [], -1, false⟩, ⟨true, 1, 2, 0, -1, [], -1, false⟩, nz, nz, nz]
def fam4 : List Nd := [⟨true, 1, 0, 0, -1, [1], -1, false⟩, ⟨true, 1, 1, 0, 0, [], -1, false⟩, ⟨true, 1, 2, 0, -1, [], -1, false⟩, nz, nz, nz]
def fam5 : List Nd := [⟨true, 1, 0, 0, -1, [2, 1], -1, false⟩, ⟨true, 1, 1, 0, 0, [], -1, false⟩, ⟨true, 1, 2, 0, 0, [], -1, false⟩, nz, nz, nz]
def famS : Nat → List Nd
  | 0 => fam0 | 1 => fam1 | 2 => fam2 | _ => fam3
def famH : Nat → Nat → SV
  | 0 => cmpG [iv 0, iv 0, iv 0, iv 0, iv 0, iv 0]
  | 1 => cmpG [iv 0, iv 1, iv 0, iv 0, iv 0, iv 0]
  | 2 => cmpG [iv 0, iv 1, iv 1, iv 1, iv 0, iv 0]
  | _ => cmpG [iv 0, iv 1, iv 1, iv 1, iv 2, iv 1]
theorem fam_0 : newSt 6 = (fam0, 0) := by decide +kernel
theorem fam_1 : mkSt fam0 0 = (fam1, ⟨0, 1⟩, 0) := by decide +kernel
theorem fam_2 : mkSt fam1 1 = (fam2, ⟨1, 1⟩, 0) := by decide +kernel
theorem fam_3 : mkSt fam2 2 = (fam3, ⟨2, 1⟩, 0) := by decide +kernel
theorem fam_4 : insSt fam3 ⟨0, 1⟩ ⟨1, 1⟩ [] = (fam4, 0) := by decide +kernel
theorem fam_5 : insSt fam4 ⟨0, 1⟩ ⟨2, 1⟩ [⟨1, 1⟩] = (fam5, 0) := by decide +kernel
theorem fam_c0 : checkSt fam0 = 0 := by decide +kernel
theorem fam_c1 : checkSt fam1 = 0 := by decide +kernel
theorem fam_c2 : checkSt fam2 = 0 := by decide +kernel
theorem fam_c3 : checkSt fam3 = 0 := by decide +kernel
theorem fam_c4 : checkSt fam4 = 0 := by decide +kernel
theorem fam_c5 : checkSt fam5 = 0 := by decide +kernel
end Go.Proofs.Ytmcdamcedemdiaa
namespace Go.Proofs.Ytmcdamcedemdiaa
open Go.RowKit Go.Eng
theorem famN : Ct Try.prog 47 [iv 6] (sv2 (SV.agg 1 (stG fam0)) (iv 0)) := by
  have h := new_ct 6
  rw [fam_0] at h
  exact h
theorem famM0 : Ct Try.prog 40 [SV.agg 1 (stG fam0), iv 0] (sv3 (SV.agg 1 (stG fam1)) (SV.agg 2 (hdCell ⟨0, 1⟩)) (iv 0)) := by
  have h := make_ct fam0 0 (kb_of fam_c0)
  rw [fam_1] at h
  exact h
theorem famM1 : Ct Try.prog 40 [SV.agg 1 (stG fam1), iv 1] (sv3 (SV.agg 1 (stG fam2)) (SV.agg 2 (hdCell ⟨1, 1⟩)) (iv 0)) := by
  have h := make_ct fam1 1 (kb_of fam_c1)
  rw [fam_2] at h
  exact h
theorem famM2 : Ct Try.prog 40 [SV.agg 1 (stG fam2), iv 2] (sv3 (SV.agg 1 (stG fam3)) (SV.agg 2 (hdCell ⟨2, 1⟩)) (iv 0)) := by
  have h := make_ct fam2 2 (kb_of fam_c2)
  rw [fam_3] at h
  exact h
theorem famI4 : Ct Try.prog 56 [SV.agg 1 (stG fam3), SV.agg 2 (hdCell ⟨0, 1⟩), SV.agg 2 (hdCell ⟨1, 1⟩), hdRow []] (sv2 (SV.agg 1 (stG fam4)) (iv 0)) := by
  have h := insert_ct fam3 ⟨0, 1⟩ ⟨1, 1⟩ [] (kb_of fam_c3)
  rw [fam_4] at h
  exact h
theorem famI5 : Ct Try.prog 56 [SV.agg 1 (stG fam4), SV.agg 2 (hdCell ⟨0, 1⟩), SV.agg 2 (hdCell ⟨2, 1⟩), hdRow [⟨1, 1⟩]] (sv2 (SV.agg 1 (stG fam5)) (iv 0)) := by
  have h := insert_ct fam4 ⟨0, 1⟩ ⟨2, 1⟩ [⟨1, 1⟩] (kb_of fam_c4)
  rw [fam_5] at h
  exact h
theorem family_ct  : Ct Try.prog 103 [] (sv3 (SV.agg 1 (stG fam5)) (SV.agg 6 (cmpG [iv (0), iv (1), iv (1), iv (1), iv (2), iv (1)])) (bv (true))) := by
 refine CtO 69 Try.func103 rfl rfl rfl fun E => Sq <| Rt <| Al 1 zero24 rfl rfl <| Al 2 zero113 rfl rfl <| U (As K) <| Nt <| Sq <| Rt <| CT en47 (by exact ⟨⟨K, rfl⟩, Z⟩) (famN) <| U (Mv (V rfl)) <| U (Xt (V rfl) (by decide)) <| U (Xt (V rfl) (by decide)) <| Al 3 zero24 rfl rfl <| StA (V rfl) rfl (V rfl) Sz24 <| U (As (V rfl)) <| Nt <| Sq <| Rq <| O (Mv (V rfl)) <| O (Ql (V rfl) K) <| O (As (V rfl)) <| Nq <| Sq <| Rt <| Al 4 zero113 rfl rfl <| Nt <| Sq <| Sq <| Rq <| O (Mv K) <| Nq <| Bo <| Lo (fun (i : Nat) => ⟨[(0, SV.bp 1 0), (1, SV.bp 2 0), (3, SV.bp 3 0), (5, bv (true)), (6, SV.bp 4 0), (14, iv ((i : Int)))], [(1, Own.box 1 (cmpG [SV.v (Value.slice none 0 0)]) 24), (2, Own.box 6 (cmpG [iv (0), iv (0), iv (0), iv (0), iv (0), iv (0)]) 113), (3, Own.box 1 (stG (famS i)) 24), (4, Own.box 6 (famH i) 113)]⟩) (fun (i : Nat) => i ≤ 3) (fun (i : Nat) => 3 - i) 0 (by show 0 ≤ 3; decide) (We (sl := [(0, SV.bp 1 0), (1, SV.bp 2 0), (3, SV.bp 3 0), (5, bv (true)), (6, SV.bp 4 0), (14, iv (0))]) (ow := [(1, Own.box 1 (cmpG [SV.v (Value.slice none 0 0)]) 24), (2, Own.box 6 (cmpG [iv (0), iv (0), iv (0), iv (0), iv (0), iv (0)]) 113), (3, Own.box 1 (stG (fam0)) 24), (4, Own.box 6 (famH 0) 113)]) (by exact ⟨V rfl, V rfl, V rfl, val_eq (V rfl) rfl, V rfl, V rfl, Z⟩) (by exact ⟨⟨_, rfl, rfl, rfl, (An rfl)⟩, ⟨_, rfl, rfl, rfl, (An rfl)⟩, ⟨_, rfl, rfl, rfl, (An rfl)⟩, ⟨_, rfl, rfl, rfl, (An rfl)⟩, Z⟩)) <| ?_
 ·rintro i hI1
  have hJ1 : i ≤ 3 := hI1
  rcases (show i = 0 ∨ i = 1 ∨ i = 2 ∨ i = 3 by omega) with rfl | rfl | rfl | rfl
  ·show C _ E _ ⟨[(0, SV.bp 1 0), (1, SV.bp 2 0), (3, SV.bp 3 0), (5, bv (true)), (6, SV.bp 4 0), (14, iv (0))], [(1, Own.box 1 (cmpG [SV.v (Value.slice none 0 0)]) 24), (2, Own.box 6 (cmpG [iv (0), iv (0), iv (0), iv (0), iv (0), iv (0)]) 113), (3, Own.box 1 (stG (fam0)) 24), (4, Own.box 6 (famH 0) 113)]⟩ _
   refine Sq <| Rq <| O (Lt (V rfl) K) <| Nq <| Sq <| Cd (V rfl) (fun hc1 => ?_) (fun hc1 => ?_)
   ·have hc1s := hc1; try simp only [BL] at hc1s
    exact Sk <| Sq <| Bo <| Sq <| Rq <| O (Mv (V rfl)) <| O (As (V rfl)) <| Nq <| Sq <| Rt <| U (Mv (V rfl)) <| U (LBA (V rfl) rfl Ga24 Sz24 (by decide)) <| U (Mv (V rfl)) <| CT en40 (by exact ⟨⟨(Vi (g' := stG fam0) (V rfl) ⟨Z, Ir⟩), rfl⟩, ⟨(V rfl), rfl⟩, Z⟩) (famM0) <| U (Mv (V rfl)) <| U (Xt (V rfl) (by decide)) <| U (Xt (V rfl) (by decide)) <| U (Xt (V rfl) (by decide)) <| StA (V rfl) rfl (V rfl) Sz24 <| U (q_ixB (i := 0) (V rfl) (V rfl) ta113 te113 (by rw [al113]; decide)) <| t_stP (fun zt => ([iv (0), iv (1), iv (0), iv (0), iv (0), iv (0)] : List SV).getD zt .junk) (V rfl) rfl (V rfl) Sz26 (by decide) (An rfl) <| U (As (V rfl)) <| Nt <| Rq <| O (Mv (V rfl)) <| O (Mv (V rfl)) <| Og (Gy rfl rfl) (fun hg => Mv (V rfl)) <| Og (Gy rfl rfl) (fun hg => Ql (Vg (V rfl) hg) K) <| O (Qa (V rfl) (fun h => Vg (V rfl) h)) <| O (As (V rfl)) <| Nq <| Rq <| O (Ad (V rfl) K (by omega)) <| O (Mv (V rfl)) <| Nq <| Nx (1) (by show 1 ≤ 3; decide) (by show 3 - 1 < 3 - 0; decide) (We (sl := [(0, SV.bp 1 0), (1, SV.bp 2 0), (3, SV.bp 3 0), (5, bv (true)), (6, SV.bp 4 0), (14, iv (1))]) (ow := [(1, Own.box 1 (cmpG [SV.v (Value.slice none 0 0)]) 24), (2, Own.box 6 (cmpG [iv (0), iv (0), iv (0), iv (0), iv (0), iv (0)]) 113), (3, Own.box 1 (stG (fam1)) 24), (4, Own.box 6 (famH 1) 113)]) (by exact ⟨V rfl, V rfl, V rfl, val_eq (V rfl) rfl, V rfl, V rfl, Z⟩) (by exact ⟨⟨_, rfl, rfl, rfl, (An rfl)⟩, ⟨_, rfl, rfl, rfl, (An rfl)⟩, ⟨_, rfl, rfl, rfl, (An rfl)⟩, ⟨_, rfl, rfl, rfl, (An rfl)⟩, Z⟩))
   ·exact absurd hc1 (by decide)
  ·show C _ E _ ⟨[(0, SV.bp 1 0), (1, SV.bp 2 0), (3, SV.bp 3 0), (5, bv (true)), (6, SV.bp 4 0), (14, iv (1))], [(1, Own.box 1 (cmpG [SV.v (Value.slice none 0 0)]) 24), (2, Own.box 6 (cmpG [iv (0), iv (0), iv (0), iv (0), iv (0), iv (0)]) 113), (3, Own.box 1 (stG (fam1)) 24), (4, Own.box 6 (famH 1) 113)]⟩ _
   refine Sq <| Rq <| O (Lt (V rfl) K) <| Nq <| Sq <| Cd (V rfl) (fun hc2 => ?_) (fun hc2 => ?_)
   ·have hc2s := hc2; try simp only [BL] at hc2s
    exact Sk <| Sq <| Bo <| Sq <| Rq <| O (Mv (V rfl)) <| O (As (V rfl)) <| Nq <| Sq <| Rt <| U (Mv (V rfl)) <| U (LBA (V rfl) rfl Ga24 Sz24 (by decide)) <| U (Mv (V rfl)) <| CT en40 (by exact ⟨⟨(Vi (g' := stG fam1) (V rfl) ⟨Z, Ir⟩), rfl⟩, ⟨(V rfl), rfl⟩, Z⟩) (famM1) <| U (Mv (V rfl)) <| U (Xt (V rfl) (by decide)) <| U (Xt (V rfl) (by decide)) <| U (Xt (V rfl) (by decide)) <| StA (V rfl) rfl (V rfl) Sz24 <| U (q_ixB (i := 1) (V rfl) (V rfl) ta113 te113 (by rw [al113]; decide)) <| t_stP (fun zt => ([iv (0), iv (1), iv (1), iv (1), iv (0), iv (0)] : List SV).getD zt .junk) (V rfl) rfl (V rfl) Sz26 (by decide) (An rfl) <| U (As (V rfl)) <| Nt <| Rq <| O (Mv (V rfl)) <| O (Mv (V rfl)) <| Og (Gy rfl rfl) (fun hg => Mv (V rfl)) <| Og (Gy rfl rfl) (fun hg => Ql (Vg (V rfl) hg) K) <| O (Qa (V rfl) (fun h => Vg (V rfl) h)) <| O (As (V rfl)) <| Nq <| Rq <| O (Ad (V rfl) K (by omega)) <| O (Mv (V rfl)) <| Nq <| Nx (2) (by show 2 ≤ 3; decide) (by show 3 - 2 < 3 - 1; decide) (We (sl := [(0, SV.bp 1 0), (1, SV.bp 2 0), (3, SV.bp 3 0), (5, bv (true)), (6, SV.bp 4 0), (14, iv (2))]) (ow := [(1, Own.box 1 (cmpG [SV.v (Value.slice none 0 0)]) 24), (2, Own.box 6 (cmpG [iv (0), iv (0), iv (0), iv (0), iv (0), iv (0)]) 113), (3, Own.box 1 (stG (fam2)) 24), (4, Own.box 6 (famH 2) 113)]) (by exact ⟨V rfl, V rfl, V rfl, val_eq (V rfl) rfl, V rfl, V rfl, Z⟩) (by exact ⟨⟨_, rfl, rfl, rfl, (An rfl)⟩, ⟨_, rfl, rfl, rfl, (An rfl)⟩, ⟨_, rfl, rfl, rfl, (An rfl)⟩, ⟨_, rfl, rfl, rfl, (An rfl)⟩, Z⟩))
   ·exact absurd hc2 (by decide)
  ·show C _ E _ ⟨[(0, SV.bp 1 0), (1, SV.bp 2 0), (3, SV.bp 3 0), (5, bv (true)), (6, SV.bp 4 0), (14, iv (2))], [(1, Own.box 1 (cmpG [SV.v (Value.slice none 0 0)]) 24), (2, Own.box 6 (cmpG [iv (0), iv (0), iv (0), iv (0), iv (0), iv (0)]) 113), (3, Own.box 1 (stG (fam2)) 24), (4, Own.box 6 (famH 2) 113)]⟩ _
   refine Sq <| Rq <| O (Lt (V rfl) K) <| Nq <| Sq <| Cd (V rfl) (fun hc3 => ?_) (fun hc3 => ?_)
   ·have hc3s := hc3; try simp only [BL] at hc3s
    exact Sk <| Sq <| Bo <| Sq <| Rq <| O (Mv (V rfl)) <| O (As (V rfl)) <| Nq <| Sq <| Rt <| U (Mv (V rfl)) <| U (LBA (V rfl) rfl Ga24 Sz24 (by decide)) <| U (Mv (V rfl)) <| CT en40 (by exact ⟨⟨(Vi (g' := stG fam2) (V rfl) ⟨Z, Ir⟩), rfl⟩, ⟨(V rfl), rfl⟩, Z⟩) (famM2) <| U (Mv (V rfl)) <| U (Xt (V rfl) (by decide)) <| U (Xt (V rfl) (by decide)) <| U (Xt (V rfl) (by decide)) <| StA (V rfl) rfl (V rfl) Sz24 <| U (q_ixB (i := 2) (V rfl) (V rfl) ta113 te113 (by rw [al113]; decide)) <| t_stP (fun zt => ([iv (0), iv (1), iv (1), iv (1), iv (2), iv (1)] : List SV).getD zt .junk) (V rfl) rfl (V rfl) Sz26 (by decide) (An rfl) <| U (As (V rfl)) <| Nt <| Rq <| O (Mv (V rfl)) <| O (Mv (V rfl)) <| Og (Gy rfl rfl) (fun hg => Mv (V rfl)) <| Og (Gy rfl rfl) (fun hg => Ql (Vg (V rfl) hg) K) <| O (Qa (V rfl) (fun h => Vg (V rfl) h)) <| O (As (V rfl)) <| Nq <| Rq <| O (Ad (V rfl) K (by omega)) <| O (Mv (V rfl)) <| Nq <| Nx (3) (by show 3 ≤ 3; decide) (by show 3 - 3 < 3 - 2; decide) (We (sl := [(0, SV.bp 1 0), (1, SV.bp 2 0), (3, SV.bp 3 0), (5, bv (true)), (6, SV.bp 4 0), (14, iv (3))]) (ow := [(1, Own.box 1 (cmpG [SV.v (Value.slice none 0 0)]) 24), (2, Own.box 6 (cmpG [iv (0), iv (0), iv (0), iv (0), iv (0), iv (0)]) 113), (3, Own.box 1 (stG (fam3)) 24), (4, Own.box 6 (famH 3) 113)]) (by exact ⟨V rfl, V rfl, V rfl, val_eq (V rfl) rfl, V rfl, V rfl, Z⟩) (by exact ⟨⟨_, rfl, rfl, rfl, (An rfl)⟩, ⟨_, rfl, rfl, rfl, (An rfl)⟩, ⟨_, rfl, rfl, rfl, (An rfl)⟩, ⟨_, rfl, rfl, rfl, (An rfl)⟩, Z⟩))
   ·exact absurd hc3 (by decide)
  ·show C _ E _ ⟨[(0, SV.bp 1 0), (1, SV.bp 2 0), (3, SV.bp 3 0), (5, bv (true)), (6, SV.bp 4 0), (14, iv (3))], [(1, Own.box 1 (cmpG [SV.v (Value.slice none 0 0)]) 24), (2, Own.box 6 (cmpG [iv (0), iv (0), iv (0), iv (0), iv (0), iv (0)]) 113), (3, Own.box 1 (stG (fam3)) 24), (4, Own.box 6 (famH 3) 113)]⟩ _
   refine Sq <| Rq <| O (Lt (V rfl) K) <| Nq <| Sq <| Cd (V rfl) (fun hc4 => ?_) (fun hc4 => ?_)
   ·exact absurd hc4 (by decide)
   ·have hc4s := hc4; try simp only [BL] at hc4s
    refine Ex <| Sq <| Rt <| U (LBA (V rfl) rfl Ga24 Sz24 (by decide)) <| U (q_ixB (i := 0) (V rfl) K ta113 te113 (by rw [al113]; decide)) <| U (LBA (V rfl) rfl Ga26 Sz26 (by decide)) <| U (q_ixB (i := 1) (V rfl) K ta113 te113 (by rw [al113]; decide)) <| U (LBA (V rfl) rfl Ga26 Sz26 (by decide)) <| CT en56 (by exact ⟨⟨(Vi (g' := stG fam3) (V rfl) ⟨Z, Ir⟩), rfl⟩, ⟨(Vi (g' := hdCell ⟨0, 1⟩) (V rfl) ⟨⟨Z, Ir⟩, Ir⟩), rfl⟩, ⟨(Vi (g' := hdCell ⟨1, 1⟩) (V rfl) ⟨⟨Z, Ir⟩, Ir⟩), rfl⟩, ⟨Vn, rfl⟩, Z⟩) (famI4) <| U (Mv (V rfl)) <| U (Xt (V rfl) (by decide)) <| U (Xt (V rfl) (by decide)) <| StA (V rfl) rfl (V rfl) Sz24 <| U (As (V rfl)) <| Nt <| Sq <| Rq <| O (Mv (V rfl)) <| O (Mv (V rfl)) <| Og (Gy rfl rfl) (fun hg => Mv (V rfl)) <| Og (Gy rfl rfl) (fun hg => Ql (Vg (V rfl) hg) K) <| O (Qa (V rfl) (fun h => Vg (V rfl) h)) <| O (As (V rfl)) <| Nq <| Sq <| c_frzB 4 [iv (0), iv (1), iv (1), iv (1), iv (2), iv (1)] rfl rfl ⟨⟨⟨⟨⟨⟨Z, rfl⟩, rfl⟩, rfl⟩, rfl⟩, rfl⟩, rfl⟩ rfl <| c_rd (fun e => ⟨[(47, cj (e 0) (SV.agg 1 (fun zi => (stG fam4) (0 + zi)))), (48, cj (e 1) (elB [iv (0), iv (1), iv (1), iv (1), iv (2), iv (1)] 0)), (49, cj (e 2) (SV.agg 2 (fun zi => (fun zt => ([iv (0), iv (1), iv (1), iv (1), iv (2), iv (1)] : List SV).getD zt .junk) (0 + zi)))), (50, cj (e 3) (elB [iv (0), iv (1), iv (1), iv (1), iv (2), iv (1)] 4)), (51, cj (e 4) (SV.agg 2 (fun zi => (fun zt => ([iv (0), iv (1), iv (1), iv (1), iv (2), iv (1)] : List SV).getD zt .junk) (4 + zi)))), (52, cj (e 5) (hdRow ([⟨1, 1⟩]))), (53, cj (e 6) (sv2 (SV.agg 1 (stG fam5)) (iv (0)))), (46, cj (e 7) (sv2 (SV.agg 1 (stG fam5)) (iv (0)))), (54, cj (e 8) (SV.agg 1 (stG fam5))), (55, cj (e 9) (iv (0))), (4, cj (e 11) (iv (0))), (0, SV.bp 1 0), (1, SV.bp 2 0), (3, SV.bp 3 0), (5, bv (true && (decide ((0 : Int) = 0)))), (6, elB [iv (0), iv (1), iv (1), iv (1), iv (2), iv (1)] 0)], (cb (e 10) [(1, Own.box 1 (cmpG [SV.v (Value.slice none 0 0)]) 24), (2, Own.box 6 (cmpG [iv (0), iv (0), iv (0), iv (0), iv (0), iv (0)]) 113), (3, Own.box 1 (stG fam5) 24)] [(1, Own.box 1 (cmpG [SV.v (Value.slice none 0 0)]) 24), (2, Own.box 6 (cmpG [iv (0), iv (0), iv (0), iv (0), iv (0), iv (0)]) 113), (3, Own.box 1 (stG fam4) 24)])⟩) ⟨[(47, SV.agg 1 (fun zi => (stG fam4) (0 + zi))), (48, elB [iv (0), iv (1), iv (1), iv (1), iv (2), iv (1)] 0), (49, SV.agg 2 (fun zi => (fun zt => ([iv (0), iv (1), iv (1), iv (1), iv (2), iv (1)] : List SV).getD zt .junk) (0 + zi))), (50, elB [iv (0), iv (1), iv (1), iv (1), iv (2), iv (1)] 4), (51, SV.agg 2 (fun zi => (fun zt => ([iv (0), iv (1), iv (1), iv (1), iv (2), iv (1)] : List SV).getD zt .junk) (4 + zi))), (52, hdRow ([⟨1, 1⟩])), (53, sv2 (SV.agg 1 (stG fam5)) (iv (0))), (46, sv2 (SV.agg 1 (stG fam5)) (iv (0))), (54, SV.agg 1 (stG fam5)), (55, iv (0)), (4, iv (0)), (0, SV.bp 1 0), (1, SV.bp 2 0), (3, SV.bp 3 0), (5, bv (true && (decide ((0 : Int) = 0)))), (6, elB [iv (0), iv (1), iv (1), iv (1), iv (2), iv (1)] 0)], [(1, Own.box 1 (cmpG [SV.v (Value.slice none 0 0)]) 24), (2, Own.box 6 (cmpG [iv (0), iv (0), iv (0), iv (0), iv (0), iv (0)]) 113), (3, Own.box 1 (stG fam5) 24)]⟩ (by kernel_rfl) (by kernel_rfl) ?_ ⟨?_, ?_, ?_, ?_, ?_, ?_, ?_, ?_, ?_, ?_, ?_, ?_, Z⟩ ?_ ?_
    ·show Weak _ _ ⟨[(47, SV.junk), (48, SV.junk), (49, SV.junk), (50, SV.junk), (51, SV.junk), (52, SV.junk), (53, SV.junk), (46, SV.junk), (54, SV.junk), (55, SV.junk), (4, SV.junk), (0, SV.bp 1 0), (1, SV.bp 2 0), (3, SV.bp 3 0), (5, bv (true && (decide ((0 : Int) = 0)))), (6, elB [iv (0), iv (1), iv (1), iv (1), iv (2), iv (1)] 0)], [(1, Own.box 1 (cmpG [SV.v (Value.slice none 0 0)]) 24), (2, Own.box 6 (cmpG [iv (0), iv (0), iv (0), iv (0), iv (0), iv (0)]) 113), (3, Own.box 1 (stG fam4) 24)]⟩
     refine We ?_ ?_
     ·exact ⟨Vj, Vj, Vj, Vj, Vj, Vj, Vj, Vj, Vj, Vj, Vj, V rfl, V rfl, V rfl, V rfl, V rfl, Z⟩
     ·exact ⟨⟨_, rfl, ⟨rfl, rfl, (An rfl)⟩⟩, ⟨_, rfl, ⟨rfl, rfl, (An rfl)⟩⟩, ⟨_, rfl, ⟨rfl, rfl, (An rfl)⟩⟩, Z⟩
    ·intro e hdn he hdp
     have h10 : e 10 = false := fls he fun q => by obtain ⟨r8, -, -, -, -, -, -, -, -, -, -, -⟩ := (show e 8 = true ∧ e 6 = true ∧ e 0 = true ∧ e 1 = true ∧ e 2 = true ∧ e 3 = true ∧ e 4 = true ∧ e 5 = true ∧ e 6 = true ∧ e 7 = true ∧ e 8 = true ∧ True from hdn 10 q); obtain ⟨r7, -⟩ := (show e 7 = true ∧ True from hdn 8 r8); obtain ⟨r6, -⟩ := (show e 6 = true ∧ True from hdn 7 r7); obtain ⟨r0, -, -, -, -⟩ := (show e 0 = true ∧ e 2 = true ∧ e 4 = true ∧ e 5 = true ∧ True from hdn 6 r6); exact r0
     simp only [setE, he, h10, cj_t, cj_f, cjn_t, cjn_f, cb_t, cb_f]
     refine U (LBA (V rfl) rfl Ga24 Sz24 (by decide)) <| Nt <| We ?_ ?_
     ·exact ⟨V rfl, V rfl, V rfl, V rfl, V rfl, V rfl, V rfl, V rfl, V rfl, V rfl, V rfl, V rfl, V rfl, V rfl, V rfl, V rfl, Z⟩
     ·exact ⟨⟨_, rfl, ⟨rfl, rfl, (An rfl)⟩⟩, ⟨_, rfl, ⟨rfl, rfl, (An rfl)⟩⟩, ⟨_, rfl, ⟨rfl, rfl, (An rfl)⟩⟩, Z⟩
    ·intro e hdn he hdp
     have h10 : e 10 = false := fls he fun q => by obtain ⟨r8, -, -, -, -, -, -, -, -, -, -, -⟩ := (show e 8 = true ∧ e 6 = true ∧ e 0 = true ∧ e 1 = true ∧ e 2 = true ∧ e 3 = true ∧ e 4 = true ∧ e 5 = true ∧ e 6 = true ∧ e 7 = true ∧ e 8 = true ∧ True from hdn 10 q); obtain ⟨r7, -⟩ := (show e 7 = true ∧ True from hdn 8 r8); obtain ⟨r6, -⟩ := (show e 6 = true ∧ True from hdn 7 r7); obtain ⟨-, r2, -, -, -⟩ := (show e 0 = true ∧ e 2 = true ∧ e 4 = true ∧ e 5 = true ∧ True from hdn 6 r6); obtain ⟨r1, -⟩ := (show e 1 = true ∧ True from hdn 2 r2); exact r1
     simp only [setE, he, h10, cj_t, cj_f, cjn_t, cjn_f, cb_t, cb_f]
     refine U (q_ixE (i := 0) (V rfl) K ta113 te113 (by rw [al113]; decide)) <| Nt <| We ?_ ?_
     ·exact ⟨V rfl, V rfl, V rfl, V rfl, V rfl, V rfl, V rfl, V rfl, V rfl, V rfl, V rfl, V rfl, V rfl, V rfl, V rfl, V rfl, Z⟩
     ·exact ⟨⟨_, rfl, ⟨rfl, rfl, (An rfl)⟩⟩, ⟨_, rfl, ⟨rfl, rfl, (An rfl)⟩⟩, ⟨_, rfl, ⟨rfl, rfl, (An rfl)⟩⟩, Z⟩
    ·intro e hdn he hdp
     obtain ⟨h1, -⟩ := (show e 1 = true ∧ True from hdp)
     have h10 : e 10 = false := fls he fun q => by obtain ⟨r8, -, -, -, -, -, -, -, -, -, -, -⟩ := (show e 8 = true ∧ e 6 = true ∧ e 0 = true ∧ e 1 = true ∧ e 2 = true ∧ e 3 = true ∧ e 4 = true ∧ e 5 = true ∧ e 6 = true ∧ e 7 = true ∧ e 8 = true ∧ True from hdn 10 q); obtain ⟨r7, -⟩ := (show e 7 = true ∧ True from hdn 8 r8); obtain ⟨r6, -⟩ := (show e 6 = true ∧ True from hdn 7 r7); obtain ⟨-, r2, -, -, -⟩ := (show e 0 = true ∧ e 2 = true ∧ e 4 = true ∧ e 5 = true ∧ True from hdn 6 r6); exact r2
     simp only [setE, h1, he, h10, cj_t, cj_f, cjn_t, cjn_f, cb_t, cb_f]
     refine U (LdA (V rfl) Ga26 Sz26 (by show 0 + 2 ≤ 6; decide)) <| Nt <| We ?_ ?_
     ·exact ⟨V rfl, V rfl, V rfl, V rfl, V rfl, V rfl, V rfl, V rfl, V rfl, V rfl, V rfl, V rfl, V rfl, V rfl, V rfl, V rfl, Z⟩
     ·exact ⟨⟨_, rfl, ⟨rfl, rfl, (An rfl)⟩⟩, ⟨_, rfl, ⟨rfl, rfl, (An rfl)⟩⟩, ⟨_, rfl, ⟨rfl, rfl, (An rfl)⟩⟩, Z⟩
    ·intro e hdn he hdp
     have h10 : e 10 = false := fls he fun q => by obtain ⟨r8, -, -, -, -, -, -, -, -, -, -, -⟩ := (show e 8 = true ∧ e 6 = true ∧ e 0 = true ∧ e 1 = true ∧ e 2 = true ∧ e 3 = true ∧ e 4 = true ∧ e 5 = true ∧ e 6 = true ∧ e 7 = true ∧ e 8 = true ∧ True from hdn 10 q); obtain ⟨r7, -⟩ := (show e 7 = true ∧ True from hdn 8 r8); obtain ⟨r6, -⟩ := (show e 6 = true ∧ True from hdn 7 r7); obtain ⟨-, -, r4, -, -⟩ := (show e 0 = true ∧ e 2 = true ∧ e 4 = true ∧ e 5 = true ∧ True from hdn 6 r6); obtain ⟨r3, -⟩ := (show e 3 = true ∧ True from hdn 4 r4); exact r3
     simp only [setE, he, h10, cj_t, cj_f, cjn_t, cjn_f, cb_t, cb_f]
     refine U (q_ixE (i := 2) (V rfl) K ta113 te113 (by rw [al113]; decide)) <| Nt <| We ?_ ?_
     ·exact ⟨V rfl, V rfl, V rfl, V rfl, V rfl, V rfl, V rfl, V rfl, V rfl, V rfl, V rfl, V rfl, V rfl, V rfl, V rfl, V rfl, Z⟩
     ·exact ⟨⟨_, rfl, ⟨rfl, rfl, (An rfl)⟩⟩, ⟨_, rfl, ⟨rfl, rfl, (An rfl)⟩⟩, ⟨_, rfl, ⟨rfl, rfl, (An rfl)⟩⟩, Z⟩
    ·intro e hdn he hdp
     obtain ⟨h3, -⟩ := (show e 3 = true ∧ True from hdp)
     have h10 : e 10 = false := fls he fun q => by obtain ⟨r8, -, -, -, -, -, -, -, -, -, -, -⟩ := (show e 8 = true ∧ e 6 = true ∧ e 0 = true ∧ e 1 = true ∧ e 2 = true ∧ e 3 = true ∧ e 4 = true ∧ e 5 = true ∧ e 6 = true ∧ e 7 = true ∧ e 8 = true ∧ True from hdn 10 q); obtain ⟨r7, -⟩ := (show e 7 = true ∧ True from hdn 8 r8); obtain ⟨r6, -⟩ := (show e 6 = true ∧ True from hdn 7 r7); obtain ⟨-, -, r4, -, -⟩ := (show e 0 = true ∧ e 2 = true ∧ e 4 = true ∧ e 5 = true ∧ True from hdn 6 r6); exact r4
     simp only [setE, h3, he, h10, cj_t, cj_f, cjn_t, cjn_f, cb_t, cb_f]
     refine U (LdA (V rfl) Ga26 Sz26 (by show 4 + 2 ≤ 6; decide)) <| Nt <| We ?_ ?_
     ·exact ⟨V rfl, V rfl, V rfl, V rfl, V rfl, V rfl, V rfl, V rfl, V rfl, V rfl, V rfl, V rfl, V rfl, V rfl, V rfl, V rfl, Z⟩
     ·exact ⟨⟨_, rfl, ⟨rfl, rfl, (An rfl)⟩⟩, ⟨_, rfl, ⟨rfl, rfl, (An rfl)⟩⟩, ⟨_, rfl, ⟨rfl, rfl, (An rfl)⟩⟩, Z⟩
    ·intro e hdn he hdp
     have h10 : e 10 = false := fls he fun q => by obtain ⟨r8, -, -, -, -, -, -, -, -, -, -, -⟩ := (show e 8 = true ∧ e 6 = true ∧ e 0 = true ∧ e 1 = true ∧ e 2 = true ∧ e 3 = true ∧ e 4 = true ∧ e 5 = true ∧ e 6 = true ∧ e 7 = true ∧ e 8 = true ∧ True from hdn 10 q); obtain ⟨r7, -⟩ := (show e 7 = true ∧ True from hdn 8 r8); obtain ⟨r6, -⟩ := (show e 6 = true ∧ True from hdn 7 r7); obtain ⟨-, -, -, r5, -⟩ := (show e 0 = true ∧ e 2 = true ∧ e 4 = true ∧ e 5 = true ∧ True from hdn 6 r6); exact r5
     simp only [setE, he, h10, cj_t, cj_f, cjn_t, cjn_f, cb_t, cb_f]
     refine U (q_slA (cell := hdCell) (d := default) (k := 2) (l := 1) (h := 2) [⟨1, 1⟩] ta113 te113 (V rfl) K K (by decide) (by rw [al113]; decide) (by rw [al113]; decide) (by rw [al113]; decide) rfl (fun i hi => match i, hi with | 0, _ => An rfl)) <| Nt <| We ?_ ?_
     ·exact ⟨V rfl, V rfl, V rfl, V rfl, V rfl, V rfl, V rfl, V rfl, V rfl, V rfl, V rfl, V rfl, V rfl, V rfl, V rfl, V rfl, Z⟩
     ·exact ⟨⟨_, rfl, ⟨rfl, rfl, (An rfl)⟩⟩, ⟨_, rfl, ⟨rfl, rfl, (An rfl)⟩⟩, ⟨_, rfl, ⟨rfl, rfl, (An rfl)⟩⟩, Z⟩
    ·intro e hdn he hdp
     obtain ⟨h0, h2, h4, h5, -⟩ := (show e 0 = true ∧ e 2 = true ∧ e 4 = true ∧ e 5 = true ∧ True from hdp)
     obtain ⟨h3, -⟩ := (show e 3 = true ∧ True from hdn 4 h4)
     obtain ⟨h1, -⟩ := (show e 1 = true ∧ True from hdn 2 h2)
     have h10 : e 10 = false := fls he fun q => by obtain ⟨r8, -, -, -, -, -, -, -, -, -, -, -⟩ := (show e 8 = true ∧ e 6 = true ∧ e 0 = true ∧ e 1 = true ∧ e 2 = true ∧ e 3 = true ∧ e 4 = true ∧ e 5 = true ∧ e 6 = true ∧ e 7 = true ∧ e 8 = true ∧ True from hdn 10 q); obtain ⟨r7, -⟩ := (show e 7 = true ∧ True from hdn 8 r8); obtain ⟨r6, -⟩ := (show e 6 = true ∧ True from hdn 7 r7); exact r6
     simp only [setE, h0, h1, h2, h3, h4, h5, he, h10, cj_t, cj_f, cjn_t, cjn_f, cb_t, cb_f]
     refine CT en56 (by exact ⟨⟨(Vi (g' := stG fam4) (V rfl) ⟨Z, Ir⟩), rfl⟩, ⟨(Vi (g' := hdCell ⟨0, 1⟩) (V rfl) ⟨⟨Z, Ir⟩, Ir⟩), rfl⟩, ⟨(Vi (g' := hdCell ⟨2, 1⟩) (V rfl) ⟨⟨Z, Ir⟩, Ir⟩), rfl⟩, ⟨(V rfl), rfl⟩, Z⟩) (famI5) <| Nt <| We ?_ ?_
     ·exact ⟨V rfl, V rfl, V rfl, V rfl, V rfl, V rfl, V rfl, V rfl, V rfl, V rfl, V rfl, V rfl, V rfl, V rfl, V rfl, V rfl, Z⟩
     ·exact ⟨⟨_, rfl, ⟨rfl, rfl, (An rfl)⟩⟩, ⟨_, rfl, ⟨rfl, rfl, (An rfl)⟩⟩, ⟨_, rfl, ⟨rfl, rfl, (An rfl)⟩⟩, Z⟩
    ·intro e hdn he hdp
     obtain ⟨h6, -⟩ := (show e 6 = true ∧ True from hdp)
     obtain ⟨h0, h2, h4, h5, -⟩ := (show e 0 = true ∧ e 2 = true ∧ e 4 = true ∧ e 5 = true ∧ True from hdn 6 h6)
     obtain ⟨h3, -⟩ := (show e 3 = true ∧ True from hdn 4 h4)
     obtain ⟨h1, -⟩ := (show e 1 = true ∧ True from hdn 2 h2)
     have h10 : e 10 = false := fls he fun q => by obtain ⟨r8, -, -, -, -, -, -, -, -, -, -, -⟩ := (show e 8 = true ∧ e 6 = true ∧ e 0 = true ∧ e 1 = true ∧ e 2 = true ∧ e 3 = true ∧ e 4 = true ∧ e 5 = true ∧ e 6 = true ∧ e 7 = true ∧ e 8 = true ∧ True from hdn 10 q); obtain ⟨r7, -⟩ := (show e 7 = true ∧ True from hdn 8 r8); exact r7
     simp only [setE, h0, h1, h2, h3, h4, h5, h6, he, h10, cj_t, cj_f, cjn_t, cjn_f, cb_t, cb_f]
     refine U (Mv (V rfl)) <| Nt <| We ?_ ?_
     ·exact ⟨V rfl, V rfl, V rfl, V rfl, V rfl, V rfl, V rfl, V rfl, V rfl, V rfl, V rfl, V rfl, V rfl, V rfl, V rfl, V rfl, Z⟩
     ·exact ⟨⟨_, rfl, ⟨rfl, rfl, (An rfl)⟩⟩, ⟨_, rfl, ⟨rfl, rfl, (An rfl)⟩⟩, ⟨_, rfl, ⟨rfl, rfl, (An rfl)⟩⟩, Z⟩
    ·intro e hdn he hdp
     obtain ⟨h7, -⟩ := (show e 7 = true ∧ True from hdp)
     obtain ⟨h6, -⟩ := (show e 6 = true ∧ True from hdn 7 h7)
     obtain ⟨h0, h2, h4, h5, -⟩ := (show e 0 = true ∧ e 2 = true ∧ e 4 = true ∧ e 5 = true ∧ True from hdn 6 h6)
     obtain ⟨h3, -⟩ := (show e 3 = true ∧ True from hdn 4 h4)
     obtain ⟨h1, -⟩ := (show e 1 = true ∧ True from hdn 2 h2)
     have h10 : e 10 = false := fls he fun q => by obtain ⟨r8, -, -, -, -, -, -, -, -, -, -, -⟩ := (show e 8 = true ∧ e 6 = true ∧ e 0 = true ∧ e 1 = true ∧ e 2 = true ∧ e 3 = true ∧ e 4 = true ∧ e 5 = true ∧ e 6 = true ∧ e 7 = true ∧ e 8 = true ∧ True from hdn 10 q); exact r8
     simp only [setE, h0, h1, h2, h3, h4, h5, h6, h7, he, h10, cj_t, cj_f, cjn_t, cjn_f, cb_t, cb_f]
     refine U (Xt (V rfl) (by decide)) <| Nt <| We ?_ ?_
     ·exact ⟨V rfl, V rfl, V rfl, V rfl, V rfl, V rfl, V rfl, V rfl, V rfl, V rfl, V rfl, V rfl, V rfl, V rfl, V rfl, V rfl, Z⟩
     ·exact ⟨⟨_, rfl, ⟨rfl, rfl, (An rfl)⟩⟩, ⟨_, rfl, ⟨rfl, rfl, (An rfl)⟩⟩, ⟨_, rfl, ⟨rfl, rfl, (An rfl)⟩⟩, Z⟩
    ·intro e hdn he hdp
     obtain ⟨h7, -⟩ := (show e 7 = true ∧ True from hdp)
     obtain ⟨h6, -⟩ := (show e 6 = true ∧ True from hdn 7 h7)
     obtain ⟨h0, h2, h4, h5, -⟩ := (show e 0 = true ∧ e 2 = true ∧ e 4 = true ∧ e 5 = true ∧ True from hdn 6 h6)
     obtain ⟨h3, -⟩ := (show e 3 = true ∧ True from hdn 4 h4)
     obtain ⟨h1, -⟩ := (show e 1 = true ∧ True from hdn 2 h2)
     simp only [setE, h0, h1, h2, h3, h4, h5, h6, h7, he, cj_t, cj_f, cjn_t, cjn_f, cb_t, cb_f]
     exact U (Xt (V rfl) (by decide)) <| Nt <| weakS ⟨V rfl, V rfl, V rfl, V rfl, V rfl, V rfl, V rfl, V rfl, V rfl, V rfl, V rfl, V rfl, V rfl, V rfl, V rfl, V rfl, Z⟩
    ·intro e hdn he hdp
     obtain ⟨h8, h6, h0, h1, h2, h3, h4, h5, -, h7, -, -⟩ := (show e 8 = true ∧ e 6 = true ∧ e 0 = true ∧ e 1 = true ∧ e 2 = true ∧ e 3 = true ∧ e 4 = true ∧ e 5 = true ∧ e 6 = true ∧ e 7 = true ∧ e 8 = true ∧ True from hdp)
     simp only [setE, h0, h1, h2, h3, h4, h5, h6, h7, h8, he, cj_t, cj_f, cjn_t, cjn_f, cb_t, cb_f]
     refine StA (V rfl) rfl (V rfl) Sz24 <| Nt <| We ?_ ?_
     ·exact ⟨V rfl, V rfl, V rfl, V rfl, V rfl, V rfl, V rfl, V rfl, V rfl, V rfl, V rfl, V rfl, V rfl, V rfl, V rfl, V rfl, Z⟩
     ·exact ⟨⟨_, rfl, ⟨rfl, rfl, (An rfl)⟩⟩, ⟨_, rfl, ⟨rfl, rfl, (An rfl)⟩⟩, ⟨_, rfl, ⟨rfl, rfl, (An rfl)⟩⟩, Z⟩
    ·intro e hdn he hdp
     obtain ⟨h9, h10, h0, h1, h2, h3, h4, h5, h6, h7, h8, -, -, -⟩ := (show e 9 = true ∧ e 10 = true ∧ e 0 = true ∧ e 1 = true ∧ e 2 = true ∧ e 3 = true ∧ e 4 = true ∧ e 5 = true ∧ e 6 = true ∧ e 7 = true ∧ e 8 = true ∧ e 9 = true ∧ e 10 = true ∧ True from hdp)
     simp only [setE, h0, h1, h2, h3, h4, h5, h6, h7, h8, h9, h10, he, cj_t, cj_f, cjn_t, cjn_f, cb_t, cb_f]
     refine U (As (V rfl)) <| Nt <| We ?_ ?_
     ·exact ⟨V rfl, V rfl, V rfl, V rfl, V rfl, V rfl, V rfl, V rfl, V rfl, V rfl, V rfl, V rfl, V rfl, V rfl, V rfl, V rfl, Z⟩
     ·exact ⟨⟨_, rfl, ⟨rfl, rfl, (An rfl)⟩⟩, ⟨_, rfl, ⟨rfl, rfl, (An rfl)⟩⟩, ⟨_, rfl, ⟨rfl, rfl, (An rfl)⟩⟩, Z⟩
    ·intro e he
     have h0 := he 0 (by decide)
     have h1 := he 1 (by decide)
     have h2 := he 2 (by decide)
     have h3 := he 3 (by decide)
     have h4 := he 4 (by decide)
     have h5 := he 5 (by decide)
     have h6 := he 6 (by decide)
     have h7 := he 7 (by decide)
     have h8 := he 8 (by decide)
     have h9 := he 9 (by decide)
     have h10 := he 10 (by decide)
     have h11 := he 11 (by decide)
     show Weak _ ⟨[(47, cj (e 0) (SV.agg 1 (fun zi => (stG fam4) (0 + zi)))), (48, cj (e 1) (elB [iv (0), iv (1), iv (1), iv (1), iv (2), iv (1)] 0)), (49, cj (e 2) (SV.agg 2 (fun zi => (fun zt => ([iv (0), iv (1), iv (1), iv (1), iv (2), iv (1)] : List SV).getD zt .junk) (0 + zi)))), (50, cj (e 3) (elB [iv (0), iv (1), iv (1), iv (1), iv (2), iv (1)] 4)), (51, cj (e 4) (SV.agg 2 (fun zi => (fun zt => ([iv (0), iv (1), iv (1), iv (1), iv (2), iv (1)] : List SV).getD zt .junk) (4 + zi)))), (52, cj (e 5) (hdRow ([⟨1, 1⟩]))), (53, cj (e 6) (sv2 (SV.agg 1 (stG fam5)) (iv (0)))), (46, cj (e 7) (sv2 (SV.agg 1 (stG fam5)) (iv (0)))), (54, cj (e 8) (SV.agg 1 (stG fam5))), (55, cj (e 9) (iv (0))), (4, cj (e 11) (iv (0))), (0, SV.bp 1 0), (1, SV.bp 2 0), (3, SV.bp 3 0), (5, bv (true && (decide ((0 : Int) = 0)))), (6, elB [iv (0), iv (1), iv (1), iv (1), iv (2), iv (1)] 0)], (cb (e 10) [(1, Own.box 1 (cmpG [SV.v (Value.slice none 0 0)]) 24), (2, Own.box 6 (cmpG [iv (0), iv (0), iv (0), iv (0), iv (0), iv (0)]) 113), (3, Own.box 1 (stG fam5) 24)] [(1, Own.box 1 (cmpG [SV.v (Value.slice none 0 0)]) 24), (2, Own.box 6 (cmpG [iv (0), iv (0), iv (0), iv (0), iv (0), iv (0)]) 113), (3, Own.box 1 (stG fam4) 24)])⟩ _
     simp only [h0, h1, h2, h3, h4, h5, h6, h7, h8, h9, h10, h11]
     show Weak _ ⟨[(47, SV.agg 1 (fun zi => (stG fam4) (0 + zi))), (48, elB [iv (0), iv (1), iv (1), iv (1), iv (2), iv (1)] 0), (49, SV.agg 2 (fun zi => (fun zt => ([iv (0), iv (1), iv (1), iv (1), iv (2), iv (1)] : List SV).getD zt .junk) (0 + zi))), (50, elB [iv (0), iv (1), iv (1), iv (1), iv (2), iv (1)] 4), (51, SV.agg 2 (fun zi => (fun zt => ([iv (0), iv (1), iv (1), iv (1), iv (2), iv (1)] : List SV).getD zt .junk) (4 + zi))), (52, hdRow ([⟨1, 1⟩])), (53, sv2 (SV.agg 1 (stG fam5)) (iv (0))), (46, sv2 (SV.agg 1 (stG fam5)) (iv (0))), (54, SV.agg 1 (stG fam5)), (55, iv (0)), (4, iv (0)), (0, SV.bp 1 0), (1, SV.bp 2 0), (3, SV.bp 3 0), (5, bv (true && (decide ((0 : Int) = 0)))), (6, elB [iv (0), iv (1), iv (1), iv (1), iv (2), iv (1)] 0)], [(1, Own.box 1 (cmpG [SV.v (Value.slice none 0 0)]) 24), (2, Own.box 6 (cmpG [iv (0), iv (0), iv (0), iv (0), iv (0), iv (0)]) 113), (3, Own.box 1 (stG fam5) 24)]⟩ _
     refine We ?_ ?_
     ·exact ⟨Va (V rfl) (An rfl), V rfl, Va (V rfl) (An rfl), V rfl, Va (V rfl) (An rfl), V rfl, V rfl, V rfl, Va (V rfl) (An rfl), V rfl, V rfl, V rfl, V rfl, V rfl, V rfl, V rfl, Z⟩
     ·exact ⟨⟨_, rfl, ⟨rfl, rfl, (An rfl)⟩⟩, ⟨_, rfl, ⟨rfl, rfl, (An rfl)⟩⟩, ⟨_, rfl, ⟨rfl, rfl, (An rfl)⟩⟩, Z⟩
    refine Sq <| c_rd (fun e => ⟨[(56, cj (e 0) (SV.agg 1 (fun zi => (stG fam5) (0 + zi)))), (57, cj (e 1) (SV.agg 6 (fun zi => (fun zt => ([iv (0), iv (1), iv (1), iv (1), iv (2), iv (1)] : List SV).getD zt .junk) (0 + zi)))), (58, cj (e 2) (bv (true && (decide ((0 : Int) = 0))))), (59, cj (e 3) (bv (true && (decide ((0 : Int) = 0))))), (60, cj (e 4) (SV.grd ((true && (decide ((0 : Int) = 0)))) (iv (0)))), (61, cj (e 5) (SV.grd ((true && (decide ((0 : Int) = 0)))) (bv (decide ((0 : Int) = 0))))), (62, cj (e 6) (bv ((true && (decide ((0 : Int) = 0))) && (decide ((0 : Int) = 0))))), (63, cj (e 7) (bv ((true && (decide ((0 : Int) = 0))) && (decide ((0 : Int) = 0))))), (64, cj (e 8) (SV.grd (((true && (decide ((0 : Int) = 0))) && (decide ((0 : Int) = 0)))) (SV.bp 3 0))), (65, cj (e 9) (SV.grd (((true && (decide ((0 : Int) = 0))) && (decide ((0 : Int) = 0)))) (ndRow fam5))), (66, cj (e 10) (SV.grd (((true && (decide ((0 : Int) = 0))) && (decide ((0 : Int) = 0)))) (iv ((fam5.length : Int))))), (67, cj (e 11) (SV.grd (((true && (decide ((0 : Int) = 0))) && (decide ((0 : Int) = 0)))) (bv (decide ((fam5.length : Int) = 6))))), (68, cj (e 12) (bv (((true && (decide ((0 : Int) = 0))) && (decide ((0 : Int) = 0))) && (decide ((fam5.length : Int) = 6))))), (2, cj (e 15) (bv (((true && (decide ((0 : Int) = 0))) && (decide ((0 : Int) = 0))) && (decide ((fam5.length : Int) = 6))))), (0, SV.bp 1 0), (1, SV.bp 2 0), (3, SV.bp 3 0), (4, iv (0)), (5, bv (true && (decide ((0 : Int) = 0)))), (6, elB [iv (0), iv (1), iv (1), iv (1), iv (2), iv (1)] 0)], (cb (e 13) (cb (e 14) [(1, Own.box 1 (fun zi => (stG fam5) (0 + zi)) 24), (2, Own.box 6 (fun zi => (fun zt => ([iv (0), iv (1), iv (1), iv (1), iv (2), iv (1)] : List SV).getD zt .junk) (0 + zi)) 113), (3, Own.box 1 (stG fam5) 24)] [(1, Own.box 1 (fun zi => (stG fam5) (0 + zi)) 24), (2, Own.box 6 (cmpG [iv (0), iv (0), iv (0), iv (0), iv (0), iv (0)]) 113), (3, Own.box 1 (stG fam5) 24)]) (cb (e 14) [] [(1, Own.box 1 (cmpG [SV.v (Value.slice none 0 0)]) 24), (2, Own.box 6 (cmpG [iv (0), iv (0), iv (0), iv (0), iv (0), iv (0)]) 113), (3, Own.box 1 (stG fam5) 24)]))⟩) ⟨[(56, SV.agg 1 (fun zi => (stG fam5) (0 + zi))), (57, SV.agg 6 (fun zi => (fun zt => ([iv (0), iv (1), iv (1), iv (1), iv (2), iv (1)] : List SV).getD zt .junk) (0 + zi))), (58, bv (true && (decide ((0 : Int) = 0)))), (59, bv (true && (decide ((0 : Int) = 0)))), (60, SV.grd ((true && (decide ((0 : Int) = 0)))) (iv (0))), (61, SV.grd ((true && (decide ((0 : Int) = 0)))) (bv (decide ((0 : Int) = 0)))), (62, bv ((true && (decide ((0 : Int) = 0))) && (decide ((0 : Int) = 0)))), (63, bv ((true && (decide ((0 : Int) = 0))) && (decide ((0 : Int) = 0)))), (64, SV.grd (((true && (decide ((0 : Int) = 0))) && (decide ((0 : Int) = 0)))) (SV.bp 3 0)), (65, SV.grd (((true && (decide ((0 : Int) = 0))) && (decide ((0 : Int) = 0)))) (ndRow fam5)), (66, SV.grd (((true && (decide ((0 : Int) = 0))) && (decide ((0 : Int) = 0)))) (iv ((fam5.length : Int)))), (67, SV.grd (((true && (decide ((0 : Int) = 0))) && (decide ((0 : Int) = 0)))) (bv (decide ((fam5.length : Int) = 6)))), (68, bv (((true && (decide ((0 : Int) = 0))) && (decide ((0 : Int) = 0))) && (decide ((fam5.length : Int) = 6)))), (2, bv (((true && (decide ((0 : Int) = 0))) && (decide ((0 : Int) = 0))) && (decide ((fam5.length : Int) = 6)))), (0, SV.bp 1 0), (1, SV.bp 2 0), (3, SV.bp 3 0), (4, iv (0)), (5, bv (true && (decide ((0 : Int) = 0)))), (6, elB [iv (0), iv (1), iv (1), iv (1), iv (2), iv (1)] 0)], [(1, Own.box 1 (fun zi => (stG fam5) (0 + zi)) 24), (2, Own.box 6 (fun zi => (fun zt => ([iv (0), iv (1), iv (1), iv (1), iv (2), iv (1)] : List SV).getD zt .junk) (0 + zi)) 113), (3, Own.box 1 (stG fam5) 24)]⟩ (by kernel_rfl) (by kernel_rfl) ?_ ⟨?_, ?_, ?_, ?_, ?_, ?_, ?_, ?_, ?_, ?_, ?_, ?_, ?_, ?_, ?_, ?_, Z⟩ ?_ ?_
    ·show Weak _ _ ⟨[(56, SV.junk), (57, SV.junk), (58, SV.junk), (59, SV.junk), (60, SV.junk), (61, SV.junk), (62, SV.junk), (63, SV.junk), (64, SV.junk), (65, SV.junk), (66, SV.junk), (67, SV.junk), (68, SV.junk), (2, SV.junk), (0, SV.bp 1 0), (1, SV.bp 2 0), (3, SV.bp 3 0), (4, iv (0)), (5, bv (true && (decide ((0 : Int) = 0)))), (6, elB [iv (0), iv (1), iv (1), iv (1), iv (2), iv (1)] 0)], [(1, Own.box 1 (cmpG [SV.v (Value.slice none 0 0)]) 24), (2, Own.box 6 (cmpG [iv (0), iv (0), iv (0), iv (0), iv (0), iv (0)]) 113), (3, Own.box 1 (stG fam5) 24)]⟩
     refine We ?_ ?_
     ·exact ⟨Vj, Vj, Vj, Vj, Vj, Vj, Vj, Vj, Vj, Vj, Vj, Vj, Vj, Vj, V rfl, V rfl, V rfl, V rfl, V rfl, V rfl, Z⟩
     ·exact ⟨⟨_, rfl, ⟨rfl, rfl, (An rfl)⟩⟩, ⟨_, rfl, ⟨rfl, rfl, (An rfl)⟩⟩, ⟨_, rfl, ⟨rfl, rfl, (An rfl)⟩⟩, Z⟩
    ·intro e hdn he hdp
     have h13 : e 13 = false := fls he fun q => by obtain ⟨r0, -, -, -⟩ := (show e 0 = true ∧ e 7 = true ∧ e 0 = true ∧ True from hdn 13 q); exact r0
     have h14 : e 14 = false := fls he fun q => by obtain ⟨-, r13, -, -, -, -⟩ := (show e 1 = true ∧ e 13 = true ∧ e 0 = true ∧ e 1 = true ∧ e 13 = true ∧ True from hdn 14 q); obtain ⟨r0, -, -, -⟩ := (show e 0 = true ∧ e 7 = true ∧ e 0 = true ∧ True from hdn 13 r13); exact r0
     simp only [setE, he, h13, h14, cj_t, cj_f, cjn_t, cjn_f, cb_t, cb_f]
     refine U (LBA (V rfl) rfl Ga24 Sz24 (by decide)) <| Nt <| We ?_ ?_
     ·exact ⟨V rfl, V rfl, V rfl, V rfl, V rfl, V rfl, V rfl, V rfl, V rfl, V rfl, V rfl, V rfl, V rfl, V rfl, V rfl, V rfl, V rfl, V rfl, V rfl, V rfl, Z⟩
     ·exact ⟨⟨_, rfl, ⟨rfl, rfl, (An rfl)⟩⟩, ⟨_, rfl, ⟨rfl, rfl, (An rfl)⟩⟩, ⟨_, rfl, ⟨rfl, rfl, (An rfl)⟩⟩, Z⟩
    ·intro e hdn he hdp
     have h14 : e 14 = false := fls he fun q => by obtain ⟨r1, -, -, -, -, -⟩ := (show e 1 = true ∧ e 13 = true ∧ e 0 = true ∧ e 1 = true ∧ e 13 = true ∧ True from hdn 14 q); exact r1
     simp only [setE, he, h14, cj_t, cj_f, cjn_t, cjn_f, cb_t, cb_f]
     exact U (LdA (V rfl) Ga113 Sz113 (by show 0 + 6 ≤ 6; decide)) <| Nt <| weakS ⟨V rfl, V rfl, V rfl, V rfl, V rfl, V rfl, V rfl, V rfl, V rfl, V rfl, V rfl, V rfl, V rfl, V rfl, V rfl, V rfl, V rfl, V rfl, V rfl, V rfl, Z⟩
    ·intro e hdn he hdp
     have h13 : e 13 = false := fls he fun q => by obtain ⟨-, r7, -, -⟩ := (show e 0 = true ∧ e 7 = true ∧ e 0 = true ∧ True from hdn 13 q); obtain ⟨r6, -, -⟩ := (show e 6 = true ∧ e 3 = true ∧ True from hdn 7 r7); obtain ⟨-, r5, -⟩ := (show e 3 = true ∧ e 5 = true ∧ True from hdn 6 r6); obtain ⟨r4, -, -⟩ := (show e 4 = true ∧ e 3 = true ∧ True from hdn 5 r5); obtain ⟨r3, -⟩ := (show e 3 = true ∧ True from hdn 4 r4); obtain ⟨r2, -⟩ := (show e 2 = true ∧ True from hdn 3 r3); exact r2
     have h14 : e 14 = false := fls he fun q => by obtain ⟨-, r13, -, -, -, -⟩ := (show e 1 = true ∧ e 13 = true ∧ e 0 = true ∧ e 1 = true ∧ e 13 = true ∧ True from hdn 14 q); obtain ⟨-, r7, -, -⟩ := (show e 0 = true ∧ e 7 = true ∧ e 0 = true ∧ True from hdn 13 r13); obtain ⟨r6, -, -⟩ := (show e 6 = true ∧ e 3 = true ∧ True from hdn 7 r7); obtain ⟨-, r5, -⟩ := (show e 3 = true ∧ e 5 = true ∧ True from hdn 6 r6); obtain ⟨r4, -, -⟩ := (show e 4 = true ∧ e 3 = true ∧ True from hdn 5 r5); obtain ⟨r3, -⟩ := (show e 3 = true ∧ True from hdn 4 r4); obtain ⟨r2, -⟩ := (show e 2 = true ∧ True from hdn 3 r3); exact r2
     simp only [setE, he, h13, h14, cj_t, cj_f, cjn_t, cjn_f, cb_t, cb_f]
     refine U (Mv (V rfl)) <| Nt <| We ?_ ?_
     ·exact ⟨V rfl, V rfl, V rfl, V rfl, V rfl, V rfl, V rfl, V rfl, V rfl, V rfl, V rfl, V rfl, V rfl, V rfl, V rfl, V rfl, V rfl, V rfl, V rfl, V rfl, Z⟩
     ·exact ⟨⟨_, rfl, ⟨rfl, rfl, (An rfl)⟩⟩, ⟨_, rfl, ⟨rfl, rfl, (An rfl)⟩⟩, ⟨_, rfl, ⟨rfl, rfl, (An rfl)⟩⟩, Z⟩
    ·intro e hdn he hdp
     obtain ⟨h2, -⟩ := (show e 2 = true ∧ True from hdp)
     have h13 : e 13 = false := fls he fun q => by obtain ⟨-, r7, -, -⟩ := (show e 0 = true ∧ e 7 = true ∧ e 0 = true ∧ True from hdn 13 q); obtain ⟨r6, -, -⟩ := (show e 6 = true ∧ e 3 = true ∧ True from hdn 7 r7); obtain ⟨-, r5, -⟩ := (show e 3 = true ∧ e 5 = true ∧ True from hdn 6 r6); obtain ⟨r4, -, -⟩ := (show e 4 = true ∧ e 3 = true ∧ True from hdn 5 r5); obtain ⟨r3, -⟩ := (show e 3 = true ∧ True from hdn 4 r4); exact r3
     have h14 : e 14 = false := fls he fun q => by obtain ⟨-, r13, -, -, -, -⟩ := (show e 1 = true ∧ e 13 = true ∧ e 0 = true ∧ e 1 = true ∧ e 13 = true ∧ True from hdn 14 q); obtain ⟨-, r7, -, -⟩ := (show e 0 = true ∧ e 7 = true ∧ e 0 = true ∧ True from hdn 13 r13); obtain ⟨r6, -, -⟩ := (show e 6 = true ∧ e 3 = true ∧ True from hdn 7 r7); obtain ⟨-, r5, -⟩ := (show e 3 = true ∧ e 5 = true ∧ True from hdn 6 r6); obtain ⟨r4, -, -⟩ := (show e 4 = true ∧ e 3 = true ∧ True from hdn 5 r5); obtain ⟨r3, -⟩ := (show e 3 = true ∧ True from hdn 4 r4); exact r3
     simp only [setE, h2, he, h13, h14, cj_t, cj_f, cjn_t, cjn_f, cb_t, cb_f]
     refine U (Mv (V rfl)) <| Nt <| We ?_ ?_
     ·exact ⟨V rfl, V rfl, V rfl, V rfl, V rfl, V rfl, V rfl, V rfl, V rfl, V rfl, V rfl, V rfl, V rfl, V rfl, V rfl, V rfl, V rfl, V rfl, V rfl, V rfl, Z⟩
     ·exact ⟨⟨_, rfl, ⟨rfl, rfl, (An rfl)⟩⟩, ⟨_, rfl, ⟨rfl, rfl, (An rfl)⟩⟩, ⟨_, rfl, ⟨rfl, rfl, (An rfl)⟩⟩, Z⟩
    ·intro e hdn he hdp
     obtain ⟨h3, -⟩ := (show e 3 = true ∧ True from hdp)
     obtain ⟨h2, -⟩ := (show e 2 = true ∧ True from hdn 3 h3)
     have h13 : e 13 = false := fls he fun q => by obtain ⟨-, r7, -, -⟩ := (show e 0 = true ∧ e 7 = true ∧ e 0 = true ∧ True from hdn 13 q); obtain ⟨r6, -, -⟩ := (show e 6 = true ∧ e 3 = true ∧ True from hdn 7 r7); obtain ⟨-, r5, -⟩ := (show e 3 = true ∧ e 5 = true ∧ True from hdn 6 r6); obtain ⟨r4, -, -⟩ := (show e 4 = true ∧ e 3 = true ∧ True from hdn 5 r5); exact r4
     have h14 : e 14 = false := fls he fun q => by obtain ⟨-, r13, -, -, -, -⟩ := (show e 1 = true ∧ e 13 = true ∧ e 0 = true ∧ e 1 = true ∧ e 13 = true ∧ True from hdn 14 q); obtain ⟨-, r7, -, -⟩ := (show e 0 = true ∧ e 7 = true ∧ e 0 = true ∧ True from hdn 13 r13); obtain ⟨r6, -, -⟩ := (show e 6 = true ∧ e 3 = true ∧ True from hdn 7 r7); obtain ⟨-, r5, -⟩ := (show e 3 = true ∧ e 5 = true ∧ True from hdn 6 r6); obtain ⟨r4, -, -⟩ := (show e 4 = true ∧ e 3 = true ∧ True from hdn 5 r5); exact r4
     simp only [setE, h2, h3, he, h13, h14, cj_t, cj_f, cjn_t, cjn_f, cb_t, cb_f]
     refine Ug (Gy rfl rfl) (fun hg => Mv (V rfl)) <| Nt <| We ?_ ?_
     ·exact ⟨V rfl, V rfl, V rfl, V rfl, V rfl, V rfl, V rfl, V rfl, V rfl, V rfl, V rfl, V rfl, V rfl, V rfl, V rfl, V rfl, V rfl, V rfl, V rfl, V rfl, Z⟩
     ·exact ⟨⟨_, rfl, ⟨rfl, rfl, (An rfl)⟩⟩, ⟨_, rfl, ⟨rfl, rfl, (An rfl)⟩⟩, ⟨_, rfl, ⟨rfl, rfl, (An rfl)⟩⟩, Z⟩
    ·intro e hdn he hdp
     obtain ⟨h4, h3, -⟩ := (show e 4 = true ∧ e 3 = true ∧ True from hdp)
     obtain ⟨h2, -⟩ := (show e 2 = true ∧ True from hdn 3 h3)
     have h13 : e 13 = false := fls he fun q => by obtain ⟨-, r7, -, -⟩ := (show e 0 = true ∧ e 7 = true ∧ e 0 = true ∧ True from hdn 13 q); obtain ⟨r6, -, -⟩ := (show e 6 = true ∧ e 3 = true ∧ True from hdn 7 r7); obtain ⟨-, r5, -⟩ := (show e 3 = true ∧ e 5 = true ∧ True from hdn 6 r6); exact r5
     have h14 : e 14 = false := fls he fun q => by obtain ⟨-, r13, -, -, -, -⟩ := (show e 1 = true ∧ e 13 = true ∧ e 0 = true ∧ e 1 = true ∧ e 13 = true ∧ True from hdn 14 q); obtain ⟨-, r7, -, -⟩ := (show e 0 = true ∧ e 7 = true ∧ e 0 = true ∧ True from hdn 13 r13); obtain ⟨r6, -, -⟩ := (show e 6 = true ∧ e 3 = true ∧ True from hdn 7 r7); obtain ⟨-, r5, -⟩ := (show e 3 = true ∧ e 5 = true ∧ True from hdn 6 r6); exact r5
     simp only [setE, h2, h3, h4, he, h13, h14, cj_t, cj_f, cjn_t, cjn_f, cb_t, cb_f]
     refine Ug (Gy rfl rfl) (fun hg => Ql (Vg (V rfl) hg) K) <| Nt <| We ?_ ?_
     ·exact ⟨V rfl, V rfl, V rfl, V rfl, V rfl, V rfl, V rfl, V rfl, V rfl, V rfl, V rfl, V rfl, V rfl, V rfl, V rfl, V rfl, V rfl, V rfl, V rfl, V rfl, Z⟩
     ·exact ⟨⟨_, rfl, ⟨rfl, rfl, (An rfl)⟩⟩, ⟨_, rfl, ⟨rfl, rfl, (An rfl)⟩⟩, ⟨_, rfl, ⟨rfl, rfl, (An rfl)⟩⟩, Z⟩
    ·intro e hdn he hdp
     obtain ⟨h3, h5, -⟩ := (show e 3 = true ∧ e 5 = true ∧ True from hdp)
     obtain ⟨h4, -, -⟩ := (show e 4 = true ∧ e 3 = true ∧ True from hdn 5 h5)
     obtain ⟨h2, -⟩ := (show e 2 = true ∧ True from hdn 3 h3)
     have h13 : e 13 = false := fls he fun q => by obtain ⟨-, r7, -, -⟩ := (show e 0 = true ∧ e 7 = true ∧ e 0 = true ∧ True from hdn 13 q); obtain ⟨r6, -, -⟩ := (show e 6 = true ∧ e 3 = true ∧ True from hdn 7 r7); exact r6
     have h14 : e 14 = false := fls he fun q => by obtain ⟨-, r13, -, -, -, -⟩ := (show e 1 = true ∧ e 13 = true ∧ e 0 = true ∧ e 1 = true ∧ e 13 = true ∧ True from hdn 14 q); obtain ⟨-, r7, -, -⟩ := (show e 0 = true ∧ e 7 = true ∧ e 0 = true ∧ True from hdn 13 r13); obtain ⟨r6, -, -⟩ := (show e 6 = true ∧ e 3 = true ∧ True from hdn 7 r7); exact r6
     simp only [setE, h2, h3, h4, h5, he, h13, h14, cj_t, cj_f, cjn_t, cjn_f, cb_t, cb_f]
     refine U (Qa (V rfl) (fun h => Vg (V rfl) h)) <| Nt <| We ?_ ?_
     ·exact ⟨V rfl, V rfl, V rfl, V rfl, V rfl, V rfl, V rfl, V rfl, V rfl, V rfl, V rfl, V rfl, V rfl, V rfl, V rfl, V rfl, V rfl, V rfl, V rfl, V rfl, Z⟩
     ·exact ⟨⟨_, rfl, ⟨rfl, rfl, (An rfl)⟩⟩, ⟨_, rfl, ⟨rfl, rfl, (An rfl)⟩⟩, ⟨_, rfl, ⟨rfl, rfl, (An rfl)⟩⟩, Z⟩
    ·intro e hdn he hdp
     obtain ⟨h6, h3, -⟩ := (show e 6 = true ∧ e 3 = true ∧ True from hdp)
     obtain ⟨-, h5, -⟩ := (show e 3 = true ∧ e 5 = true ∧ True from hdn 6 h6)
     obtain ⟨h4, -, -⟩ := (show e 4 = true ∧ e 3 = true ∧ True from hdn 5 h5)
     obtain ⟨h2, -⟩ := (show e 2 = true ∧ True from hdn 3 h3)
     have h13 : e 13 = false := fls he fun q => by obtain ⟨-, r7, -, -⟩ := (show e 0 = true ∧ e 7 = true ∧ e 0 = true ∧ True from hdn 13 q); exact r7
     have h14 : e 14 = false := fls he fun q => by obtain ⟨-, r13, -, -, -, -⟩ := (show e 1 = true ∧ e 13 = true ∧ e 0 = true ∧ e 1 = true ∧ e 13 = true ∧ True from hdn 14 q); obtain ⟨-, r7, -, -⟩ := (show e 0 = true ∧ e 7 = true ∧ e 0 = true ∧ True from hdn 13 r13); exact r7
     simp only [setE, h2, h3, h4, h5, h6, he, h13, h14, cj_t, cj_f, cjn_t, cjn_f, cb_t, cb_f]
     refine U (Mv (V rfl)) <| Nt <| We ?_ ?_
     ·exact ⟨V rfl, V rfl, V rfl, V rfl, V rfl, V rfl, V rfl, V rfl, V rfl, V rfl, V rfl, V rfl, V rfl, V rfl, V rfl, V rfl, V rfl, V rfl, V rfl, V rfl, Z⟩
     ·exact ⟨⟨_, rfl, ⟨rfl, rfl, (An rfl)⟩⟩, ⟨_, rfl, ⟨rfl, rfl, (An rfl)⟩⟩, ⟨_, rfl, ⟨rfl, rfl, (An rfl)⟩⟩, Z⟩
    ·intro e hdn he hdp
     obtain ⟨h7, -⟩ := (show e 7 = true ∧ True from hdp)
     obtain ⟨h6, h3, -⟩ := (show e 6 = true ∧ e 3 = true ∧ True from hdn 7 h7)
     obtain ⟨-, h5, -⟩ := (show e 3 = true ∧ e 5 = true ∧ True from hdn 6 h6)
     obtain ⟨h4, -, -⟩ := (show e 4 = true ∧ e 3 = true ∧ True from hdn 5 h5)
     obtain ⟨h2, -⟩ := (show e 2 = true ∧ True from hdn 3 h3)
     simp only [setE, h2, h3, h4, h5, h6, h7, he, cj_t, cj_f, cjn_t, cjn_f, cb_t, cb_f]
     exact Ug (Gy rfl rfl) (fun hg => FlB _ _ (V rfl) Un24 rfl 0 Sz22) <| Nt <| weakS ⟨V rfl, V rfl, V rfl, V rfl, V rfl, V rfl, V rfl, V rfl, V rfl, V rfl, V rfl, V rfl, V rfl, V rfl, V rfl, V rfl, V rfl, V rfl, V rfl, V rfl, Z⟩
    ·intro e hdn he hdp
     obtain ⟨h8, h7, -⟩ := (show e 8 = true ∧ e 7 = true ∧ True from hdp)
     obtain ⟨h6, h3, -⟩ := (show e 6 = true ∧ e 3 = true ∧ True from hdn 7 h7)
     obtain ⟨-, h5, -⟩ := (show e 3 = true ∧ e 5 = true ∧ True from hdn 6 h6)
     obtain ⟨h4, -, -⟩ := (show e 4 = true ∧ e 3 = true ∧ True from hdn 5 h5)
     obtain ⟨h2, -⟩ := (show e 2 = true ∧ True from hdn 3 h3)
     cases hu13 : e 13
     ·have h14 : e 14 = false := fls hu13 fun q => by obtain ⟨-, r13, -, -, -, -⟩ := (show e 1 = true ∧ e 13 = true ∧ e 0 = true ∧ e 1 = true ∧ e 13 = true ∧ True from hdn 14 q); exact r13
      simp only [setE, h2, h3, h4, h5, h6, h7, h8, he, hu13, h14, cj_t, cj_f, cjn_t, cjn_f, cb_t, cb_f]
      refine Ug (Gy rfl rfl) (fun hg => LdB (Vg (V rfl) hg) rfl Ga22 (by decide)) <| Nt <| We ?_ ?_
      ·exact ⟨V rfl, V rfl, V rfl, V rfl, V rfl, V rfl, V rfl, V rfl, V rfl, V rfl, V rfl, V rfl, V rfl, V rfl, V rfl, V rfl, V rfl, V rfl, V rfl, V rfl, Z⟩
      ·exact ⟨⟨_, rfl, ⟨rfl, rfl, (An rfl)⟩⟩, ⟨_, rfl, ⟨rfl, rfl, (An rfl)⟩⟩, ⟨_, rfl, ⟨rfl, rfl, (An rfl)⟩⟩, Z⟩
     ·cases hu14 : e 14
      ·simp only [setE, h2, h3, h4, h5, h6, h7, h8, he, hu13, hu14, cj_t, cj_f, cjn_t, cjn_f, cb_t, cb_f]
       refine Ug (Gy rfl rfl) (fun hg => LdB (Vg (V rfl) hg) rfl Ga22 (by decide)) <| Nt <| We ?_ ?_
       ·exact ⟨V rfl, V rfl, V rfl, V rfl, V rfl, V rfl, V rfl, V rfl, V rfl, V rfl, V rfl, V rfl, V rfl, V rfl, V rfl, V rfl, V rfl, V rfl, V rfl, V rfl, Z⟩
       ·exact ⟨⟨_, rfl, ⟨rfl, rfl, (An rfl)⟩⟩, ⟨_, rfl, ⟨rfl, rfl, (An rfl)⟩⟩, ⟨_, rfl, ⟨rfl, rfl, (An rfl)⟩⟩, Z⟩
      ·simp only [setE, h2, h3, h4, h5, h6, h7, h8, he, hu13, hu14, cj_t, cj_f, cjn_t, cjn_f, cb_t, cb_f]
       refine Ug (Gy rfl rfl) (fun hg => LdB (Vg (V rfl) hg) rfl Ga22 (by decide)) <| Nt <| We ?_ ?_
       ·exact ⟨V rfl, V rfl, V rfl, V rfl, V rfl, V rfl, V rfl, V rfl, V rfl, V rfl, V rfl, V rfl, V rfl, V rfl, V rfl, V rfl, V rfl, V rfl, V rfl, V rfl, Z⟩
       ·exact ⟨⟨_, rfl, ⟨rfl, rfl, (An rfl)⟩⟩, ⟨_, rfl, ⟨rfl, rfl, (An rfl)⟩⟩, ⟨_, rfl, ⟨rfl, rfl, (An rfl)⟩⟩, Z⟩
    ·intro e hdn he hdp
     obtain ⟨h9, h7, -⟩ := (show e 9 = true ∧ e 7 = true ∧ True from hdp)
     obtain ⟨h8, -, -⟩ := (show e 8 = true ∧ e 7 = true ∧ True from hdn 9 h9)
     obtain ⟨h6, h3, -⟩ := (show e 6 = true ∧ e 3 = true ∧ True from hdn 7 h7)
     obtain ⟨-, h5, -⟩ := (show e 3 = true ∧ e 5 = true ∧ True from hdn 6 h6)
     obtain ⟨h4, -, -⟩ := (show e 4 = true ∧ e 3 = true ∧ True from hdn 5 h5)
     obtain ⟨h2, -⟩ := (show e 2 = true ∧ True from hdn 3 h3)
     simp only [setE, h2, h3, h4, h5, h6, h7, h8, h9, he, cj_t, cj_f, cjn_t, cjn_f, cb_t, cb_f]
     exact Ug (Gy rfl rfl) (fun hg => Ln (Vg (V rfl) hg) ts22) <| Nt <| weakS ⟨V rfl, V rfl, V rfl, V rfl, V rfl, V rfl, V rfl, V rfl, V rfl, V rfl, V rfl, V rfl, V rfl, V rfl, V rfl, V rfl, V rfl, V rfl, V rfl, V rfl, Z⟩
    ·intro e hdn he hdp
     obtain ⟨h10, h7, -⟩ := (show e 10 = true ∧ e 7 = true ∧ True from hdp)
     obtain ⟨h9, -, -⟩ := (show e 9 = true ∧ e 7 = true ∧ True from hdn 10 h10)
     obtain ⟨h8, -, -⟩ := (show e 8 = true ∧ e 7 = true ∧ True from hdn 9 h9)
     obtain ⟨h6, h3, -⟩ := (show e 6 = true ∧ e 3 = true ∧ True from hdn 7 h7)
     obtain ⟨-, h5, -⟩ := (show e 3 = true ∧ e 5 = true ∧ True from hdn 6 h6)
     obtain ⟨h4, -, -⟩ := (show e 4 = true ∧ e 3 = true ∧ True from hdn 5 h5)
     obtain ⟨h2, -⟩ := (show e 2 = true ∧ True from hdn 3 h3)
     simp only [setE, h2, h3, h4, h5, h6, h7, h8, h9, h10, he, cj_t, cj_f, cjn_t, cjn_f, cb_t, cb_f]
     exact Ug (Gy rfl rfl) (fun hg => Ql (Vg (V rfl) hg) K) <| Nt <| weakS ⟨V rfl, V rfl, V rfl, V rfl, V rfl, V rfl, V rfl, V rfl, V rfl, V rfl, V rfl, V rfl, V rfl, V rfl, V rfl, V rfl, V rfl, V rfl, V rfl, V rfl, Z⟩
    ·intro e hdn he hdp
     obtain ⟨h7, h11, -⟩ := (show e 7 = true ∧ e 11 = true ∧ True from hdp)
     obtain ⟨h10, -, -⟩ := (show e 10 = true ∧ e 7 = true ∧ True from hdn 11 h11)
     obtain ⟨h9, -, -⟩ := (show e 9 = true ∧ e 7 = true ∧ True from hdn 10 h10)
     obtain ⟨h8, -, -⟩ := (show e 8 = true ∧ e 7 = true ∧ True from hdn 9 h9)
     obtain ⟨h6, h3, -⟩ := (show e 6 = true ∧ e 3 = true ∧ True from hdn 7 h7)
     obtain ⟨-, h5, -⟩ := (show e 3 = true ∧ e 5 = true ∧ True from hdn 6 h6)
     obtain ⟨h4, -, -⟩ := (show e 4 = true ∧ e 3 = true ∧ True from hdn 5 h5)
     obtain ⟨h2, -⟩ := (show e 2 = true ∧ True from hdn 3 h3)
     simp only [setE, h2, h3, h4, h5, h6, h7, h8, h9, h10, h11, he, cj_t, cj_f, cjn_t, cjn_f, cb_t, cb_f]
     exact U (Qa (V rfl) (fun h => Vg (V rfl) h)) <| Nt <| weakS ⟨V rfl, V rfl, V rfl, V rfl, V rfl, V rfl, V rfl, V rfl, V rfl, V rfl, V rfl, V rfl, V rfl, V rfl, V rfl, V rfl, V rfl, V rfl, V rfl, V rfl, Z⟩
    ·intro e hdn he hdp
     obtain ⟨h0, h7, -, -⟩ := (show e 0 = true ∧ e 7 = true ∧ e 0 = true ∧ True from hdp)
     obtain ⟨h6, h3, -⟩ := (show e 6 = true ∧ e 3 = true ∧ True from hdn 7 h7)
     obtain ⟨-, h5, -⟩ := (show e 3 = true ∧ e 5 = true ∧ True from hdn 6 h6)
     obtain ⟨h4, -, -⟩ := (show e 4 = true ∧ e 3 = true ∧ True from hdn 5 h5)
     obtain ⟨h2, -⟩ := (show e 2 = true ∧ True from hdn 3 h3)
     have h14 : e 14 = false := fls he fun q => by obtain ⟨-, r13, -, -, -, -⟩ := (show e 1 = true ∧ e 13 = true ∧ e 0 = true ∧ e 1 = true ∧ e 13 = true ∧ True from hdn 14 q); exact r13
     simp only [setE, h0, h2, h3, h4, h5, h6, h7, he, h14, cj_t, cj_f, cjn_t, cjn_f, cb_t, cb_f]
     refine StA (V rfl) rfl (V rfl) Sz24 <| Nt <| We ?_ ?_
     ·exact ⟨V rfl, V rfl, V rfl, V rfl, V rfl, V rfl, V rfl, V rfl, V rfl, V rfl, V rfl, V rfl, V rfl, V rfl, V rfl, V rfl, V rfl, V rfl, V rfl, V rfl, Z⟩
     ·exact ⟨⟨_, rfl, ⟨rfl, rfl, (An rfl)⟩⟩, ⟨_, rfl, ⟨rfl, rfl, (An rfl)⟩⟩, ⟨_, rfl, ⟨rfl, rfl, (An rfl)⟩⟩, Z⟩
    ·intro e hdn he hdp
     obtain ⟨h1, h13, h0, -, -, -⟩ := (show e 1 = true ∧ e 13 = true ∧ e 0 = true ∧ e 1 = true ∧ e 13 = true ∧ True from hdp)
     obtain ⟨-, h7, -, -⟩ := (show e 0 = true ∧ e 7 = true ∧ e 0 = true ∧ True from hdn 13 h13)
     obtain ⟨h6, h3, -⟩ := (show e 6 = true ∧ e 3 = true ∧ True from hdn 7 h7)
     obtain ⟨-, h5, -⟩ := (show e 3 = true ∧ e 5 = true ∧ True from hdn 6 h6)
     obtain ⟨h4, -, -⟩ := (show e 4 = true ∧ e 3 = true ∧ True from hdn 5 h5)
     obtain ⟨h2, -⟩ := (show e 2 = true ∧ True from hdn 3 h3)
     simp only [setE, h0, h1, h2, h3, h4, h5, h6, h7, h13, he, cj_t, cj_f, cjn_t, cjn_f, cb_t, cb_f]
     refine StA (V rfl) rfl (V rfl) Sz113 <| Nt <| We ?_ ?_
     ·exact ⟨V rfl, V rfl, V rfl, V rfl, V rfl, V rfl, V rfl, V rfl, V rfl, V rfl, V rfl, V rfl, V rfl, V rfl, V rfl, V rfl, V rfl, V rfl, V rfl, V rfl, Z⟩
     ·exact ⟨⟨_, rfl, ⟨rfl, rfl, (An rfl)⟩⟩, ⟨_, rfl, ⟨rfl, rfl, (An rfl)⟩⟩, ⟨_, rfl, ⟨rfl, rfl, (An rfl)⟩⟩, Z⟩
    ·intro e hdn he hdp
     obtain ⟨h12, h14, h0, h1, h2, h3, h4, h5, h6, h7, h8, h9, h10, h11, -, h13, -, -⟩ := (show e 12 = true ∧ e 14 = true ∧ e 0 = true ∧ e 1 = true ∧ e 2 = true ∧ e 3 = true ∧ e 4 = true ∧ e 5 = true ∧ e 6 = true ∧ e 7 = true ∧ e 8 = true ∧ e 9 = true ∧ e 10 = true ∧ e 11 = true ∧ e 12 = true ∧ e 13 = true ∧ e 14 = true ∧ True from hdp)
     simp only [setE, h0, h1, h2, h3, h4, h5, h6, h7, h8, h9, h10, h11, h12, h13, h14, he, cj_t, cj_f, cjn_t, cjn_f, cb_t, cb_f]
     refine U (As (V rfl)) <| Nt <| We ?_ ?_
     ·exact ⟨V rfl, V rfl, V rfl, V rfl, V rfl, V rfl, V rfl, V rfl, V rfl, V rfl, V rfl, V rfl, V rfl, V rfl, V rfl, V rfl, V rfl, V rfl, V rfl, V rfl, Z⟩
     ·exact ⟨⟨_, rfl, ⟨rfl, rfl, (An rfl)⟩⟩, ⟨_, rfl, ⟨rfl, rfl, (An rfl)⟩⟩, ⟨_, rfl, ⟨rfl, rfl, (An rfl)⟩⟩, Z⟩
    ·intro e he
     have h0 := he 0 (by decide)
     have h1 := he 1 (by decide)
     have h2 := he 2 (by decide)
     have h3 := he 3 (by decide)
     have h4 := he 4 (by decide)
     have h5 := he 5 (by decide)
     have h6 := he 6 (by decide)
     have h7 := he 7 (by decide)
     have h8 := he 8 (by decide)
     have h9 := he 9 (by decide)
     have h10 := he 10 (by decide)
     have h11 := he 11 (by decide)
     have h12 := he 12 (by decide)
     have h13 := he 13 (by decide)
     have h14 := he 14 (by decide)
     have h15 := he 15 (by decide)
     show Weak _ ⟨[(56, cj (e 0) (SV.agg 1 (fun zi => (stG fam5) (0 + zi)))), (57, cj (e 1) (SV.agg 6 (fun zi => (fun zt => ([iv (0), iv (1), iv (1), iv (1), iv (2), iv (1)] : List SV).getD zt .junk) (0 + zi)))), (58, cj (e 2) (bv (true && (decide ((0 : Int) = 0))))), (59, cj (e 3) (bv (true && (decide ((0 : Int) = 0))))), (60, cj (e 4) (SV.grd ((true && (decide ((0 : Int) = 0)))) (iv (0)))), (61, cj (e 5) (SV.grd ((true && (decide ((0 : Int) = 0)))) (bv (decide ((0 : Int) = 0))))), (62, cj (e 6) (bv ((true && (decide ((0 : Int) = 0))) && (decide ((0 : Int) = 0))))), (63, cj (e 7) (bv ((true && (decide ((0 : Int) = 0))) && (decide ((0 : Int) = 0))))), (64, cj (e 8) (SV.grd (((true && (decide ((0 : Int) = 0))) && (decide ((0 : Int) = 0)))) (SV.bp 3 0))), (65, cj (e 9) (SV.grd (((true && (decide ((0 : Int) = 0))) && (decide ((0 : Int) = 0)))) (ndRow fam5))), (66, cj (e 10) (SV.grd (((true && (decide ((0 : Int) = 0))) && (decide ((0 : Int) = 0)))) (iv ((fam5.length : Int))))), (67, cj (e 11) (SV.grd (((true && (decide ((0 : Int) = 0))) && (decide ((0 : Int) = 0)))) (bv (decide ((fam5.length : Int) = 6))))), (68, cj (e 12) (bv (((true && (decide ((0 : Int) = 0))) && (decide ((0 : Int) = 0))) && (decide ((fam5.length : Int) = 6))))), (2, cj (e 15) (bv (((true && (decide ((0 : Int) = 0))) && (decide ((0 : Int) = 0))) && (decide ((fam5.length : Int) = 6))))), (0, SV.bp 1 0), (1, SV.bp 2 0), (3, SV.bp 3 0), (4, iv (0)), (5, bv (true && (decide ((0 : Int) = 0)))), (6, elB [iv (0), iv (1), iv (1), iv (1), iv (2), iv (1)] 0)], (cb (e 13) (cb (e 14) [(1, Own.box 1 (fun zi => (stG fam5) (0 + zi)) 24), (2, Own.box 6 (fun zi => (fun zt => ([iv (0), iv (1), iv (1), iv (1), iv (2), iv (1)] : List SV).getD zt .junk) (0 + zi)) 113), (3, Own.box 1 (stG fam5) 24)] [(1, Own.box 1 (fun zi => (stG fam5) (0 + zi)) 24), (2, Own.box 6 (cmpG [iv (0), iv (0), iv (0), iv (0), iv (0), iv (0)]) 113), (3, Own.box 1 (stG fam5) 24)]) (cb (e 14) [] [(1, Own.box 1 (cmpG [SV.v (Value.slice none 0 0)]) 24), (2, Own.box 6 (cmpG [iv (0), iv (0), iv (0), iv (0), iv (0), iv (0)]) 113), (3, Own.box 1 (stG fam5) 24)]))⟩ _
     simp only [h0, h1, h2, h3, h4, h5, h6, h7, h8, h9, h10, h11, h12, h13, h14, h15]
     show Weak _ ⟨[(56, SV.agg 1 (fun zi => (stG fam5) (0 + zi))), (57, SV.agg 6 (fun zi => (fun zt => ([iv (0), iv (1), iv (1), iv (1), iv (2), iv (1)] : List SV).getD zt .junk) (0 + zi))), (58, bv (true && (decide ((0 : Int) = 0)))), (59, bv (true && (decide ((0 : Int) = 0)))), (60, SV.grd ((true && (decide ((0 : Int) = 0)))) (iv (0))), (61, SV.grd ((true && (decide ((0 : Int) = 0)))) (bv (decide ((0 : Int) = 0)))), (62, bv ((true && (decide ((0 : Int) = 0))) && (decide ((0 : Int) = 0)))), (63, bv ((true && (decide ((0 : Int) = 0))) && (decide ((0 : Int) = 0)))), (64, SV.grd (((true && (decide ((0 : Int) = 0))) && (decide ((0 : Int) = 0)))) (SV.bp 3 0)), (65, SV.grd (((true && (decide ((0 : Int) = 0))) && (decide ((0 : Int) = 0)))) (ndRow fam5)), (66, SV.grd (((true && (decide ((0 : Int) = 0))) && (decide ((0 : Int) = 0)))) (iv ((fam5.length : Int)))), (67, SV.grd (((true && (decide ((0 : Int) = 0))) && (decide ((0 : Int) = 0)))) (bv (decide ((fam5.length : Int) = 6)))), (68, bv (((true && (decide ((0 : Int) = 0))) && (decide ((0 : Int) = 0))) && (decide ((fam5.length : Int) = 6)))), (2, bv (((true && (decide ((0 : Int) = 0))) && (decide ((0 : Int) = 0))) && (decide ((fam5.length : Int) = 6)))), (0, SV.bp 1 0), (1, SV.bp 2 0), (3, SV.bp 3 0), (4, iv (0)), (5, bv (true && (decide ((0 : Int) = 0)))), (6, elB [iv (0), iv (1), iv (1), iv (1), iv (2), iv (1)] 0)], [(1, Own.box 1 (fun zi => (stG fam5) (0 + zi)) 24), (2, Own.box 6 (fun zi => (fun zt => ([iv (0), iv (1), iv (1), iv (1), iv (2), iv (1)] : List SV).getD zt .junk) (0 + zi)) 113), (3, Own.box 1 (stG fam5) 24)]⟩ _
     refine We ?_ ?_
     ·exact ⟨Va (V rfl) (An rfl), Va (V rfl) (An rfl), V rfl, V rfl, V rfl, V rfl, V rfl, V rfl, V rfl, V rfl, V rfl, V rfl, V rfl, V rfl, V rfl, V rfl, V rfl, V rfl, V rfl, V rfl, Z⟩
     ·exact ⟨⟨_, rfl, ⟨rfl, rfl, (An rfl)⟩⟩, ⟨_, rfl, ⟨rfl, rfl, (An rfl)⟩⟩, ⟨_, rfl, ⟨rfl, rfl, (An rfl)⟩⟩, Z⟩
    exact Rx <| RR3 rfl (rv_aggI (g' := stG fam5) (rv_cell (V rfl) rfl Ga24 Sz24) ⟨Z, Ir⟩) (rv_aggI (g' := cmpG [iv (0), iv (1), iv (1), iv (1), iv (2), iv (1)]) (rv_cell (V rfl) rfl Ga113 Sz113) ⟨⟨⟨⟨⟨⟨Z, Ir⟩, Ir⟩, Ir⟩, Ir⟩, Ir⟩, Ir⟩) (rv_tmp (V rfl)) rfl rfl rfl (by show sv3 (SV.agg 1 (stG fam5)) (SV.agg 6 (cmpG [iv (0), iv (1), iv (1), iv (1), iv (2), iv (1)])) (bv (((true && (decide ((0 : Int) = 0))) && (decide ((0 : Int) = 0))) && (decide ((fam5.length : Int) = 6)))) = sv3 (SV.agg 1 (stG fam5)) (SV.agg 6 (cmpG [iv (0), iv (1), iv (1), iv (1), iv (2), iv (1)])) (bv (true)); rfl)
end Go.Proofs.Ytmcdamcedemdiaa
namespace Go.Proofs.Ytmcdamcedemdiaa
open Go.RowKit Go.Eng
def usedB (l : List Nd) (k : Int) : Bool := (decide (0 ≤ k) && decide (k < (l.length : Int))) && (l.getD k.toNat default).used
theorem used_t {l : List Nd} {k : Int} : usedB l k = true ↔ (0 ≤ k ∧ k < (l.length : Int)) ∧ (l.getD k.toNat default).used = true := by
  simp only [usedB, Bool.and_eq_true, decide_eq_true_eq]
section
variable {l : List Nd} {h : Hd}
end
end Go.Proofs.Ytmcdamcedemdiaa
namespace Go.Proofs.Ytmcdamcedemdiaa
open Go.RowKit Go.Eng
theorem used_ct (l : List Nd) (k : Int) : Ct Try.prog 37 [SV.agg 1 (stG l), iv (k)] (bv (usedB l k)) := by
 exact CtO 22 Try.func37 rfl rfl rfl fun E => row_lenA 0 (V (s := 0) rfl) rfl rfl fun hl0_0 => Sq <| Rt <| BxA 1 (V rfl) rfl rfl <| U (As K) <| Nt <| Sq <| Rq <| O (Mv (V rfl)) <| O (Ge (V rfl) K) <| O (Mv (V rfl)) <| Og (Gy rfl rfl) (fun hg => Mv (V rfl)) <| Og (Gy rfl rfl) (fun hg => FlB _ _ (V rfl) Un24 rfl 0 Sz22) <| Og (Gy rfl rfl) (fun hg => LdB (Vg (V rfl) hg) rfl Ga22 (by decide)) <| Og (Gy rfl rfl) (fun hg => Ln (Vg (V rfl) hg) ts22) <| Og (Gy rfl rfl) (fun hg => Lt (Vg (V rfl) hg) (Vg (V rfl) hg)) <| O (Qa (V rfl) (fun h => Vg (V rfl) h)) <| O (Mv (V rfl)) <| Og (Gy rfl rfl) (fun hg => FlB _ _ (V rfl) Un24 rfl 0 Sz22) <| Og (Gy rfl rfl) (fun hg => LdB (Vg (V rfl) hg) rfl Ga22 (by decide)) <| Og (Gy rfl rfl) (fun hg => Mv (V rfl)) <| Og (Gy rfl rfl) (fun hg => Ix (Vg (V rfl) hg) (Vg (V rfl) hg) ts22 te22 (by have hgs := hg; try simp only [BL] at hgs; omega) (by have hgs := hg; try simp only [BL] at hgs; omega)) <| Og (Gy rfl rfl) (fun hg => Fl _ _ (Vg (V rfl) hg) Un61 rfl 0 Sz4) <| Og (Gy rfl rfl) (fun hg => Ld (Vg (V rfl) hg) Ga4 (by decide)) <| O (Qa (V rfl) (fun h => Vg (V rfl) h)) <| O (As (V rfl)) <| Nq <| Rx <| R1 rfl (V rfl) rfl (by show bv (((decide (0 ≤ k)) && (decide (k < (l.length : Int)))) && ((l.getD (Int.toNat k) default).used)) = bv (usedB l k); rfl)
end Go.Proofs.Ytmcdamcedemdiaa
namespace Go.Proofs.Ytmcdamcedemdiaa
open Go.RowKit Go.Eng
theorem top_ct (l : List Nd) (k : Int) (hc : checkSt l = 0) (hk : 0 ≤ k ∧ k < (l.length : Int)) : Ct Try.prog 137 [SV.agg 1 (stG l), iv (k)] (iv (topSt l k)) := by
 have h24 := checkSt_len hc
 refine CtO 19 Try.func137 rfl rfl rfl fun E => row_lenA 0 (V (s := 0) rfl) rfl rfl fun hl0_0 => Sq <| Rt <| BxA 1 (V rfl) rfl rfl <| U (As K) <| Nt <| Sq <| Bo <| Lo (fun (m : Nat) => ⟨[(1, iv (upN l m k)), (2, SV.bp 1 0)], [(1, Own.box 1 (stG l) 24)]⟩) (fun (m : Nat) => m ≤ l.length ∧ 0 ≤ upN l m k ∧ topSt l k = topN l (l.length + 1 - m) (upN l m k)) (fun (m : Nat) => l.length + 1 - m) 0 (by show 0 ≤ l.length ∧ 0 ≤ upN l 0 k ∧ topSt l k = topN l (l.length + 1 - 0) (upN l 0 k); exact ⟨Nat.zero_le _, hk.1, rfl⟩) (We (ow := [(1, Own.box 1 (stG l) 24)]) (Vs rfl) (by exact ⟨⟨_, rfl, rfl, rfl, (An rfl)⟩, Z⟩)) <| ?_
 ·rintro m hI1
  have hJ1 : m ≤ l.length ∧ 0 ≤ upN l m k ∧ topSt l k = topN l (l.length + 1 - m) (upN l m k) := hI1
  have hui := upN_in (checkSt_nodes hc) (show -1 ≤ k ∧ k < (l.length : Int) by omega) m
  have hml := up_lt hc (show -1 ≤ k ∧ k < (l.length : Int) by omega) hJ1.2.1
  have hpa := par_above hc (k := upN l m k) (by omega)
  have hst : l.length + 1 - m = (l.length - m) + 1 := by omega
  have h2 := hJ1.2.2
  have h0 := hJ1.2.1
  rw [hst] at h2
  refine Sq <| Sq <| Rq <| O (FlB _ _ (V rfl) Un24 rfl 0 Sz22) <| O (LdB (V rfl) rfl Ga22 (by decide)) <| O (Mv (V rfl)) <| O (Ix (V rfl) (V rfl) ts22 te22 (by omega) (by omega)) <| O (Fl _ _ (V rfl) Un61 rfl 0 Sz3) <| O (Ld (V rfl) Ga3 (by decide)) <| O (Ge (V rfl) K) <| Nq <| Cd (V rfl) (fun hc1 => ?_) (fun hc1 => ?_)
  ·have hc1s := hc1; try simp only [BL] at hc1s
   refine Sk <| Bo <| Rq <| O (FlB _ _ (V rfl) Un24 rfl 0 Sz22) <| O (LdB (V rfl) rfl Ga22 (by decide)) <| O (Mv (V rfl)) <| O (Ix (V rfl) (V rfl) ts22 te22 (by omega) (by omega)) <| O (Fl _ _ (V rfl) Un61 rfl 0 Sz3) <| O (Ld (V rfl) Ga3 (by decide)) <| O (As (V rfl)) <| Nq <| NxH (m + 1) (fun _ _ h => h) (by show (m + 1) ≤ l.length ∧ 0 ≤ upN l (m + 1) k ∧ topSt l k = topN l (l.length + 1 - (m + 1)) (upN l (m + 1) k); have hpu := hpa (by omega); refine ⟨by omega, ?_, ?_⟩; (show 0 ≤ up1 l (upN l m k); rw [← hpu]; omega); (rw [h2, topN, if_pos (by omega), hpu, show l.length + 1 - (m + 1) = l.length - m by omega]; rfl)) (by show l.length + 1 - (m + 1) < l.length + 1 - m; omega) (We (sl := [(1, iv (upN l ((m + 1)) k)), (2, SV.bp 1 0)]) (ow := [(1, Own.box 1 (stG l) 24)]) (by exact ⟨val_eq (V rfl) (congrArg iv (hpa (by omega))), V rfl, Z⟩) (by exact ⟨⟨_, rfl, rfl, rfl, (An rfl)⟩, Z⟩))
  ·have hc1s := hc1; try simp only [BL] at hc1s
   exact Ex <| Sq <| Rq <| O (Mv (V rfl)) <| O (As (V rfl)) <| Nq <| Rx <| R1 rfl (V rfl) rfl (by show iv (upN l m k) = iv (topSt l k); exact congrArg iv (by rw [h2, topN, if_neg (by omega)]))
end Go.Proofs.Ytmcdamcedemdiaa
namespace Go.Proofs.Ytmcdamcedemdiaa
open Go.RowKit Go.Eng
def rootsL (l : List Nd) (k : Int) : List Int := (line l k).filter fun x => decide (0 ≤ (l.getD x.toNat default).host)
theorem topN_s {l : List Nd} (h : checkSt l = 0) : ∀ (n : Nat) (k : Int), 0 ≤ k ∧ k < (l.length : Int) → dpt l k ≤ n → topN l (n + 1) k = topN l n k
  | 0, k, hk, hd => by rw [dpt_eq h hk] at hd; omega
  | n + 1, k, hk, hd => by
    show (if _ then _ else _) = if _ then _ else _
    by_cases hp : 0 ≤ (l.getD k.toNat default).par
    · rw [if_pos hp, if_pos hp]
      have hpk := (par_kid h hk hp).1
      refine topN_s h n _ ⟨hp, hpk⟩ ?_
      have e := par_above h hk hp
      rw [up1, if_neg (by omega)] at e
      rw [dpt_eq h hk, ← e] at hd
      omega
    · rw [if_neg hp, if_neg hp]
theorem dpt_le {l : List Nd} (h : checkSt l = 0) {k : Int} (hk : 0 ≤ k ∧ k < (l.length : Int)) : dpt l k ≤ l.length := by
  have h1 := (line_len (checkSt_nodes h) (l.length + 1) k (by omega)).1
  have h2 := (line_len (checkSt_nodes h) (l.length + 1) k (by omega)).2
  have h3 := (st_cnt h (i := k.toNat) (by omega)).2.2.2
  rw [show ((k.toNat : Nat) : Int) = k by omega] at h3
  have h2 : dpt l k = l.length + 1 ↔ l.length + 1 = 0 ∨ 0 ≤ upN l l.length k := h2
  have h1 : dpt l k ≤ l.length + 1 := h1
  by_cases e : dpt l k = l.length + 1
  · rcases h2.1 e with q | q <;> omega
  · omega
theorem top_par {l : List Nd} (h : checkSt l = 0) {k : Int} (hk : 0 ≤ k ∧ k < (l.length : Int)) (hp : 0 ≤ (l.getD k.toNat default).par) : topSt l k = topSt l (l.getD k.toNat default).par := by
  have hpk := (par_kid h hk hp).1
  unfold topSt
  rw [topN, if_pos hp]
  exact (topN_s h l.length _ ⟨hp, hpk⟩ (dpt_le h ⟨hp, hpk⟩)).symm
theorem top_self {l : List Nd} {k : Int} (hp : ¬ 0 ≤ (l.getD k.toNat default).par) : topSt l k = k := by unfold topSt; rw [topN, if_neg hp]
theorem above_par {l : List Nd} (h : checkSt l = 0) {k : Int} (hk : 0 ≤ k ∧ k < (l.length : Int)) (hp : 0 ≤ (l.getD k.toNat default).par) : above (l.getD k.toNat default) = (l.getD k.toNat default).par ∧ (l.getD k.toNat default).host < 0 := by
  have hh : (l.getD k.toNat default).host < 0 := Classical.byContradiction fun q => by have := (st_n1 h hk).one (by omega); omega
  exact ⟨by unfold above; rw [if_neg (by omega)], hh⟩
theorem roots_top {l : List Nd} (h : checkSt l = 0) : ∀ (d : Nat) (k : Int), 0 ≤ k ∧ k < (l.length : Int) → dpt l k = d →
    (0 ≤ topSt l k ∧ topSt l k < (l.length : Int)) ∧ rootsL l k = if (l.getD (topSt l k).toNat default).host < 0 then [] else topSt l k :: rootsL l (l.getD (topSt l k).toNat default).host
  | 0, k, hk, hd => by rw [dpt_eq h hk] at hd; cases hd
  | d + 1, k, hk, hd => by
    have hN := (st_n1 h hk).par
    by_cases hp : 0 ≤ (l.getD k.toNat default).par
    · obtain ⟨ea, hh⟩ := above_par h hk hp
      rw [top_par h hk hp]
      have hpk := (par_kid h hk hp).1
      have e : rootsL l k = rootsL l (l.getD k.toNat default).par := by
        unfold rootsL
        rw [line_eq h hk, ea, List.filter_cons_of_neg (by simpa using hh)]
      rw [e]
      exact roots_top h d _ ⟨hp, hpk⟩ (by rw [dpt_eq h hk, ea] at hd; omega)
    · rw [top_self hp]
      refine ⟨hk, ?_⟩
      by_cases hh : (l.getD k.toNat default).host < 0
      · rw [if_pos hh]
        unfold rootsL
        rw [line_eq h hk, List.filter_cons_of_neg (by simpa using hh)]
        have : above (l.getD k.toNat default) < 0 := by unfold above; rw [if_neg (by omega)]; omega
        rw [line_neg this]; rfl
      · rw [if_neg hh]
        unfold rootsL
        rw [line_eq h hk, List.filter_cons_of_pos (by simpa using hh)]
        have : above (l.getD k.toNat default) = (l.getD k.toNat default).host := by unfold above; rw [if_pos (by omega)]
        rw [this]
theorem roots_t {l : List Nd} (h : checkSt l = 0) {k : Int} (hk : 0 ≤ k ∧ k < (l.length : Int)) : (0 ≤ topSt l k ∧ topSt l k < (l.length : Int)) ∧ rootsL l k = if (l.getD (topSt l k).toNat default).host < 0 then [] else topSt l k :: rootsL l (l.getD (topSt l k).toNat default).host := roots_top h _ k hk rfl
theorem roots_in {l : List Nd} (h : checkSt l = 0) {k x : Int} (hk : -1 ≤ k ∧ k < (l.length : Int)) (hx : x ∈ rootsL l k) : (0 ≤ x ∧ x < (l.length : Int)) ∧ 0 ≤ (l.getD x.toNat default).host ∧ x ∈ line l k := by
  unfold rootsL at hx
  rw [List.mem_filter, decide_eq_true_iff] at hx
  have key : ∀ (n : Nat) (k : Int), x ∈ lineN l n k → 0 ≤ x ∧ x < (l.length : Int) := fun n => by
    induction n with
    | zero => intro k q; cases q
    | succ n ih =>
      intro k q
      rw [lineN] at q
      split at q
      · rename_i hr
        rcases List.mem_cons.1 q with rfl | q
        · exact hr
        · exact ih _ q
      · cases q
  exact ⟨key _ _ hx.1, hx.2, hx.1⟩
def shutB (l : List Nd) (f : Int) (all : Bool) (r : Int) : Bool := (!underB l f r) && (all || (l.getD r.toNat default).closed)
def hiddenSt (l : List Nd) (f k : Int) (all : Bool) : Bool := (rootsL l k).any (shutB l f all)
theorem hidden_0 {l : List Nd} (h : checkSt l = 0) {f k : Int} {all : Bool} (hk : 0 ≤ k ∧ k < (l.length : Int)) (hh : (l.getD (topSt l k).toNat default).host < 0) : hiddenSt l f k all = false := by
  unfold hiddenSt; rw [(roots_t h hk).2, if_pos hh]; rfl
theorem hidden_1 {l : List Nd} (h : checkSt l = 0) {f k : Int} {all : Bool} (hk : 0 ≤ k ∧ k < (l.length : Int)) (hh : ¬ (l.getD (topSt l k).toNat default).host < 0) (hs : shutB l f all (topSt l k) = true) : hiddenSt l f k all = true := by
  unfold hiddenSt; rw [(roots_t h hk).2, if_neg hh, List.any_cons, hs]; rfl
theorem hidden_2 {l : List Nd} (h : checkSt l = 0) {f k : Int} {all : Bool} (hk : 0 ≤ k ∧ k < (l.length : Int)) (hh : ¬ (l.getD (topSt l k).toNat default).host < 0) (hs : shutB l f all (topSt l k) = false) :
    hiddenSt l f k all = hiddenSt l f (l.getD (topSt l k).toNat default).host all ∧ (rootsL l k).length = (rootsL l (l.getD (topSt l k).toNat default).host).length + 1 ∧ (0 ≤ (l.getD (topSt l k).toNat default).host ∧ (l.getD (topSt l k).toNat default).host < (l.length : Int)) := by
  have ht := roots_t h hk
  have := (st_n1 h ht.1).host
  refine ⟨?_, ?_, by omega, this.2⟩
  · unfold hiddenSt; rw [ht.2, if_neg hh, List.any_cons, hs]; rfl
  · rw [ht.2, if_neg hh, List.length_cons]
theorem roots_len {l : List Nd} (h : checkSt l = 0) {k : Int} (hk : 0 ≤ k ∧ k < (l.length : Int)) : (rootsL l k).length ≤ l.length := Nat.le_trans (List.length_filter_le _ _) (dpt_le h hk)
def seenSt (l : List Nd) (f t : Hd) : Bool × Int := if firstSt l [f, t] ≠ 0 then (false, firstSt l [f, t]) else (!hiddenSt l f.pl t.pl false, 0)
def pathSt (l : List Nd) (h : Hd) : List Int × Int := if firstSt l [h] ≠ 0 then ([], firstSt l [h]) else (line l h.pl, 0)
theorem path_1 {l : List Nd} {h : Hd} (q : ¬ firstSt l [h] = 0) : pathSt l h = ([], firstSt l [h]) := if_pos q
theorem path_2 {l : List Nd} {h : Hd} (q : firstSt l [h] = 0) : pathSt l h = (line l h.pl, 0) := if_neg (not_not_intro q)
theorem seen_1 {l : List Nd} {f t : Hd} (q : ¬ firstSt l [f, t] = 0) : seenSt l f t = (false, firstSt l [f, t]) := if_pos q
theorem seen_2 {l : List Nd} {f t : Hd} (q : firstSt l [f, t] = 0) : seenSt l f t = (!hiddenSt l f.pl t.pl false, 0) := if_neg (not_not_intro q)
theorem first_two (l : List Nd) (f t : Hd) : firstSt l [f, t] = if (findSt l f).2 ≠ 0 then (findSt l f).2 else (findSt l t).2 := by
  rw [← first_find, ← first_find]
  show stepH l (stepH l (checkSt l) f) t = if stepH l (checkSt l) f ≠ 0 then stepH l (checkSt l) f else stepH l (checkSt l) t
  by_cases hc : checkSt l = 0
  · by_cases hf : stepH l (checkSt l) f = 0
    · rw [hf, if_neg (by simp), hc]
    · rw [if_pos hf]
      show (if stepH l (checkSt l) f = 0 then _ else _) = _
      rw [if_neg hf]
  · have e : stepH l (checkSt l) f = checkSt l := if_neg hc
    rw [e, if_pos hc]
    exact if_neg hc
def tgtL (l : List Nd) (told k : Int) : List Int → Int
  | [] => k
  | r :: rs => if (r :: rs).any (shutB l told true) = true then tgtL l told (l.getD r.toNat default).host rs else k
def tgtSt (l : List Nd) (k told : Int) : Int := if checkSt l ≠ 0 ∨ k < 0 ∨ (l.length : Int) ≤ k ∨ told < 0 ∨ (l.length : Int) ≤ told then k else tgtL l told k (rootsL l k)
theorem tgt_f {l : List Nd} (h : checkSt l = 0) {told k : Int} (hk : 0 ≤ k ∧ k < (l.length : Int)) (q : hiddenSt l told k true = false) : tgtL l told k (rootsL l k) = k := by
  unfold hiddenSt at q
  cases e : rootsL l k with
  | nil => rfl
  | cons r rs => rw [e] at q; rw [tgtL, if_neg (ff q)]
theorem tgt_t {l : List Nd} (h : checkSt l = 0) {told k : Int} (hk : 0 ≤ k ∧ k < (l.length : Int)) (q : hiddenSt l told k true = true) :
    tgtL l told k (rootsL l k) = tgtL l told (l.getD (topSt l k).toNat default).host (rootsL l (l.getD (topSt l k).toNat default).host) ∧ (rootsL l k).length = (rootsL l (l.getD (topSt l k).toNat default).host).length + 1 ∧
      (0 ≤ topSt l k ∧ topSt l k < (l.length : Int)) ∧ (0 ≤ (l.getD (topSt l k).toNat default).host ∧ (l.getD (topSt l k).toNat default).host < (l.length : Int)) := by
  have ht := roots_t h hk
  have hn := (st_n1 h ht.1).host
  by_cases hh : (l.getD (topSt l k).toNat default).host < 0
  · rw [hidden_0 h hk hh] at q; cases q
  · unfold hiddenSt at q
    rw [ht.2, if_neg hh] at q ⊢
    exact ⟨by rw [tgtL, if_pos q], by rw [List.length_cons], ht.1, by omega, hn.2⟩
def tgtR (l : List Nd) (told : Int) (k r : Int) : Int := if !decide (r ∈ rootsL l told) then (l.getD r.toNat default).host else k
theorem any_fold {l : List Nd} {told : Int} : ∀ (rs : List Int) (a b : Int), (rs.any fun r => !decide (r ∈ rootsL l told)) = true → rs.foldl (tgtR l told) a = rs.foldl (tgtR l told) b
  | [], _, _, h => by cases h
  | r :: rs, a, b, h => by
    rw [List.foldl_cons, List.foldl_cons]
    by_cases q : (!decide (r ∈ rootsL l told)) = true
    · rw [tgtR, tgtR, if_pos q, if_pos q]
    · rw [List.any_cons, Bool.eq_false_iff.2 q, Bool.false_or] at h
      exact any_fold rs _ _ h
theorem shut_mem {l : List Nd} (h : checkSt l = 0) {told r : Int} (ht : 0 ≤ told ∧ told < (l.length : Int)) (hr : 0 ≤ r) (hh : 0 ≤ (l.getD r.toNat default).host) : (!decide (r ∈ rootsL l told)) = !underB l told r := by
  rw [← line_under h (by omega) hr]
  congr 1
  rw [Bool.eq_iff_iff, decide_eq_true_iff, decide_eq_true_iff]
  unfold rootsL
  rw [List.mem_filter, decide_eq_true_iff]
  exact ⟨fun q => q.1, fun q => ⟨q, hh⟩⟩
theorem tgt_fold {l : List Nd} (h : checkSt l = 0) {told : Int} (ht : 0 ≤ told ∧ told < (l.length : Int)) : ∀ (rs : List Int) (k : Int), (∀ r ∈ rs, 0 ≤ r ∧ 0 ≤ (l.getD r.toNat default).host) → tgtL l told k rs = rs.foldl (tgtR l told) k
  | [], _, _ => rfl
  | r :: rs, k, hr => by
    have e : ∀ L : List Int, (∀ r ∈ L, 0 ≤ r ∧ 0 ≤ (l.getD r.toNat default).host) → L.any (shutB l told true) = L.any fun r => !decide (r ∈ rootsL l told) := fun L => by
      induction L with
      | nil => intro _; rfl
      | cons x L ih =>
        intro hL
        rw [List.any_cons, List.any_cons, ih fun y hy => hL y (.tail _ hy), shut_mem h ht (hL x (.head _)).1 (hL x (.head _)).2]
        congr 1
        simp [shutB]
    have ih := tgt_fold h ht rs
    rw [tgtL, e _ hr]
    by_cases q : ((r :: rs).any fun r => !decide (r ∈ rootsL l told)) = true
    · rw [if_pos q, ih _ fun y hy => hr y (.tail _ hy), List.foldl_cons]
      by_cases q2 : (!decide (r ∈ rootsL l told)) = true
      · rw [tgtR, if_pos q2]
      · rw [List.any_cons, Bool.eq_false_iff.2 q2, Bool.false_or] at q
        exact any_fold rs _ _ q
    · rw [if_neg q]
      have key : ∀ (L : List Int) (k : Int), ¬ (L.any fun r => !decide (r ∈ rootsL l told)) = true → L.foldl (tgtR l told) k = k := fun L => by
        induction L with
        | nil => intro k _; rfl
        | cons x L ih =>
          intro k hn
          rw [List.any_cons, Bool.or_eq_true, not_or] at hn
          rw [List.foldl_cons, tgtR, if_neg hn.1]
          exact ih k hn.2
      exact (key _ k q).symm
def attAt (m : List Nd) (k : Nat) (h : Int) (cl : Bool) : List Nd := (m.set k { (m.getD k default) with host := h }).set k { ((m.set k { (m.getD k default) with host := h }).getD k default) with closed := cl }
def attSt (l : List Nd) (h : Hd) (cl : Bool) : List Nd × Hd × Int :=
  if firstSt l [h] ≠ 0 then ([], ⟨0, 0⟩, firstSt l [h]) else if (l.any fun n => decide (n.host = h.pl)) = true then ([], ⟨0, 0⟩, 6) else if (mkSt l 0).2.2 ≠ 0 then ([], ⟨0, 0⟩, (mkSt l 0).2.2)
  else (attAt (mkSt l 0).1 (mkSt l 0).2.1.pl.toNat h.pl cl, (mkSt l 0).2.1, 0)
section
variable {l : List Nd} {h : Hd} {cl : Bool}
theorem att_1 (q : ¬ firstSt l [h] = 0) : attSt l h cl = ([], ⟨0, 0⟩, firstSt l [h]) := if_pos q
theorem att_2 (q : firstSt l [h] = 0) (q2 : (l.any fun n => decide (n.host = h.pl)) = true) : attSt l h cl = ([], ⟨0, 0⟩, 6) := by unfold attSt; rw [if_neg (not_not_intro q), if_pos q2]
theorem att_3 (q : firstSt l [h] = 0) (q2 : (l.any fun n => decide (n.host = h.pl)) = false) (q3 : ¬ (mkSt l 0).2.2 = 0) : attSt l h cl = ([], ⟨0, 0⟩, (mkSt l 0).2.2) := by unfold attSt; rw [if_neg (not_not_intro q), if_neg (ff q2), if_pos q3]
theorem att_4 (q : firstSt l [h] = 0) (q2 : (l.any fun n => decide (n.host = h.pl)) = false) (q3 : (mkSt l 0).2.2 = 0) : attSt l h cl = (attAt (mkSt l 0).1 (mkSt l 0).2.1.pl.toNat h.pl cl, (mkSt l 0).2.1, 0) := by
  unfold attSt; rw [if_neg (not_not_intro q), if_neg (ff q2), if_neg (not_not_intro q3)]
end
theorem any_at {l : List Nd} {p : Nd → Bool} {k : Nat} (hk : k < l.length) (e : p (l.getD k default) = true) : l.any p = true := List.any_eq_true.2 ⟨_, mem_getD hk, e⟩
theorem any_no {l : List Nd} {p : Nd → Bool} {k : Nat} (hk : l.length ≤ k) (e : ∀ j, j < k → p (l.getD j default) = false) : l.any p = false := by
  rw [List.any_eq_false]
  intro x hx
  obtain ⟨j, hj, rfl⟩ := getD_of_mem default hx
  rw [e j (by omega)]; decide
theorem mk_pl {l : List Nd} {g : Int} (e : (mkSt l g).2.2 = 0) : ∃ k : Nat, k < l.length ∧ roomB (l.getD k default) = true ∧ (0 ≤ g ∧ g ≤ 99) ∧ checkSt l = 0 ∧ (mkSt l g).1 = mkAt l k g ∧ (mkSt l g).2.1 = ⟨(k : Int), (l.getD k default).uses + 1⟩ := by
  have h1 : checkSt l = 0 := Classical.byContradiction fun q => by rw [mk_1 q] at e; exact q e
  have h2 : ¬ (g < 0 ∨ 99 < g) := fun q => by rw [mk_2 h1 q] at e; cases e
  rcases idxF_cases roomB default l with ⟨a, _⟩ | ⟨i, a, hi, hp, ha⟩
  · rw [mk_3 h1 h2 (by omega)] at e; cases e
  · have q := mk_hit h1 h2 hi ha hp
    exact ⟨i, hi, hp, by omega, h1, by rw [q], by rw [q]⟩
theorem mk_in {l : List Nd} {g : Int} (e : (mkSt l g).2.2 = 0) : (mkSt l g).1.length = l.length ∧ 0 ≤ (mkSt l g).2.1.pl ∧ (mkSt l g).2.1.pl < (l.length : Int) := by
  obtain ⟨k, hk, _, _, _, e1, e2⟩ := mk_pl e
  rw [e1, e2, mkAt_len]
  exact ⟨rfl, by show 0 ≤ (k : Int) ∧ (k : Int) < _; omega⟩
theorem roots_s {l : List Nd} {L : List Int} {i : Nat} (h : i < L.length) : (L.take (i + 1)).filter (fun x => decide (0 ≤ (l.getD x.toNat default).host)) = (L.take i).filter (fun x => decide (0 ≤ (l.getD x.toNat default).host)) ++ (if 0 ≤ (l.getD (L.getD i 0).toNat default).host then [L.getD i 0] else []) := by
  rw [take_s 0 h, List.filter_append]
  split
  · rename_i q; rw [List.filter_cons_of_pos (by simpa using q)]; rfl
  · rename_i q; rw [List.filter_cons_of_neg (by simpa using q)]; rfl
theorem line_in {l : List Nd} {k x : Int} (hx : x ∈ line l k) : 0 ≤ x ∧ x < (l.length : Int) := by
  have key : ∀ (n : Nat) (k : Int), x ∈ lineN l n k → 0 ≤ x ∧ x < (l.length : Int) := fun n => by
    induction n with
    | zero => intro k q; cases q
    | succ n ih =>
      intro k q
      rw [lineN] at q
      split at q
      · rename_i hr
        rcases List.mem_cons.1 q with rfl | q
        · exact hr
        · exact ih _ q
      · cases q
  exact key _ _ hx
theorem line_len25 {l : List Nd} (h : checkSt l = 0) (k : Int) : (line l k).length ≤ l.length + 1 := by
  have key : ∀ (n : Nat) (k : Int), (lineN l n k).length ≤ n := fun n => by
    induction n with
    | zero => intro k; exact Nat.le_refl 0
    | succ n ih =>
      intro k
      rw [lineN]
      split
      · rw [List.length_cons]; have := ih (runder (l.getD k.toNat default)); omega
      · exact Nat.zero_le _
  exact key _ _
theorem seenR {l : List Nd} (h : checkSt l = 0) {f t : Int} (hf : 0 ≤ f ∧ f < (l.length : Int)) (ht : 0 ≤ t ∧ t < (l.length : Int)) {r : Int} (hr : r ∈ rootsL l t) : ((l.getD r.toNat default).closed && !decide (r ∈ rootsL l f)) = shutB l f false r := by
  obtain ⟨a, b, _⟩ := roots_in h (by omega) hr
  rw [shut_mem h hf a.1 b, shutB, Bool.false_or, Bool.and_comm]
theorem seen_any {l : List Nd} {f k : Int} {i : Nat} (hi : i < (rootsL l k).length) (e : shutB l f false ((rootsL l k).getD i 0) = true) : hiddenSt l f k false = true := List.any_eq_true.2 ⟨_, mem_getD hi, e⟩
theorem seen_none {l : List Nd} {f k : Int} {i : Nat} (hi : (rootsL l k).length ≤ i) (e : ∀ j, j < i → shutB l f false ((rootsL l k).getD j 0) = false) : hiddenSt l f k false = false := by
  unfold hiddenSt
  rw [List.any_eq_false]
  intro x hx
  obtain ⟨j, hj, rfl⟩ := getD_of_mem 0 hx
  rw [e j (by omega)]; decide
end Go.Proofs.Ytmcdamcedemdiaa
