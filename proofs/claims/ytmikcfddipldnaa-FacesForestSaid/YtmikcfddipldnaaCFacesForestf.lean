/- DERIVED. Texts of this seat, one behind the other: lemmas and walks that the statement FacesForest needs. No condition. -/
import Derived.Test.YtmikcfddipldnaaCFacesForestc
import Derived.Test.YtmikcfddipldnaaCFacesForeste
import Derived.Test.YtmikcfddipldnaaCFacesForestd
namespace Go.Proofs.Ytmikcfddipldnaa.Mk
open Go.Proofs.Ytmikcfddipldnaa.Rot Go.RowKit Go.Proofs.YtmikcfddipldnaaW.PrintWords Go.Proofs.YtmikcfddipldnaaW.PrintLast Go.Proofs.YtmikcfddipldnaaW.PrintMore Go.Proofs.Ytmikcfddipldnaa.GAll Go.Proofs.Ytmikcfddipldnaa.Mem
set_option linter.unusedVariables false
set_option linter.unusedSimpArgs false
def eds (es : List (Int × Int)) : List Ed := es.map fun p => ⟨p.1, p.2⟩
theorem eds_length (es : List (Int × Int)) : (eds es).length = es.length := by unfold eds; simp
theorem ends_eds (es : List (Int × Int)) : Rot.ends (eds es) = es := by unfold Rot.ends eds; rw [List.map_map]; exact List.map_id' es
theorem C_eds {w : World} {A : Option Addr} {n : Nat} {es : List (Int × Int)} (h : Kd.C kp w A n es) : Kd.C k56 w A n (eds es) := by
 refine ⟨by rw [eds_length]; exact h.1, h.2.1, fun hp => ?_⟩
 obtain ⟨ad, e, h3⟩ := h.2.2 hp
 refine ⟨ad, e, fun j p hj => ?_⟩
 unfold eds at hj
 rw [List.getElem?_map] at hj
 obtain ⟨q, hq, rfl⟩ := Option.map_eq_some_iff.1 hj
 obtain ⟨cs, h1, h2, h4⟩ := h3 j q hq
 have h2' : cs = [.int .i64 q.1, .int .i64 q.2] := h2
 subst h2'
 exact ⟨_, rfl, ⟨[.int .i64 q.1], [.int .i64 q.2], rfl, rfl, rfl⟩, h4⟩
def par (ps : List Int) (v : Nat) : Bool := decide (0 ≤ gi ps v) && decide (gi ps v < (v : Int))
def prs (ps : List Int) (k : Nat) : List (Int × Int) := ((List.range k).filter fun v => decide (1 ≤ v) && par ps v).map fun v => (gi ps v, (v : Int))
theorem prs_succ (ps : List Int) {k : Nat} (hk : 1 ≤ k) : prs ps (k + 1) = if par ps k = true then prs ps k ++ [(gi ps k, (k : Int))] else prs ps k := by
 unfold prs
 rw [List.range_succ, List.filter_append, List.map_append]
 cases h : par ps k with
 | true => rw [if_pos rfl]; simp [h, hk]
 | false => rw [if_neg (by decide)]; simp [h]
theorem prs_one (ps : List Int) : prs ps 1 = [] := by unfold prs; rfl
theorem prs_length (ps : List Int) (k : Nat) : (prs ps k).length ≤ k := by
 unfold prs
 rw [List.length_map]
 exact Nat.le_trans (List.length_filter_le _ _) (by simp)
theorem prs_in (ps : List Int) {k i : Nat} (h : i < (prs ps k).length) : ∃ v, 1 ≤ v ∧ v < k ∧ 0 ≤ gi ps v ∧ gi ps v < (v : Int) ∧ pe (prs ps k) i = (gi ps v, (v : Int)) := by
 have hm : pe (prs ps k) i ∈ prs ps k := by
   unfold pe
   rw [List.getD_eq_getElem?_getD, List.getElem?_eq_getElem h]
   exact List.getElem_mem h
 obtain ⟨v, hv, e⟩ := List.mem_map.1 hm
 rw [List.mem_filter, List.mem_range, Bool.and_eq_true, decide_eq_true_eq] at hv
 obtain ⟨h1, h2, h3⟩ := hv
 unfold par at h3
 rw [Bool.and_eq_true, decide_eq_true_eq, decide_eq_true_eq] at h3
 exact ⟨v, h2, h1, h3.1, h3.2, e.symm⟩
def leaveTo (fr : List Int) (k v : Nat) : List Int := ((List.range k).filter fun h => gi fr h == (v : Int)).map fun (h : Nat) => (h : Int)
theorem leaveTo_succ (fr : List Int) (k v : Nat) : leaveTo fr (k + 1) v = if gi fr k = (v : Int) then leaveTo fr k v ++ [(k : Int)] else leaveTo fr k v := by
 unfold leaveTo
 rw [List.range_succ, List.filter_append, List.map_append]
 by_cases h : gi fr k = (v : Int)
 · rw [if_pos h]; simp [h]
 · rw [if_neg h]; simp [h]
def rowsTo (fr : List Int) (n k : Nat) : List (List Int) := (List.range n).map fun v => leaveTo fr k v
theorem rowsTo_length (fr : List Int) (n k : Nat) : (rowsTo fr n k).length = n := by unfold rowsTo; simp
theorem gl_rowsTo {fr : List Int} {n k v : Nat} (hv : v < n) : gl (rowsTo fr n k) v = leaveTo fr k v := by
 unfold gl rowsTo
 simp [List.getD_eq_getElem?_getD, hv]
theorem rowsTo_succ {fr : List Int} {n k u : Nat} (hu : u < n) (e : gi fr k = (u : Int)) : (rowsTo fr n k).set u (gl (rowsTo fr n k) u ++ [(k : Int)]) = rowsTo fr n (k + 1) := by
 rw [gl_rowsTo hu]
 apply List.ext_getElem?
 intro v
 rw [List.getElem?_set]
 unfold rowsTo
 rw [List.length_map, List.length_range, List.getElem?_map, List.getElem?_map]
 by_cases hv : v < n
 · rw [List.getElem?_range hv]
   show _ = some (leaveTo fr (k + 1) v)
   rw [leaveTo_succ]
   by_cases h : u = v
   · subst h
     rw [if_pos rfl, if_pos hv, if_pos e]
   · rw [if_neg h, if_neg (by rw [e]; omega)]
     rfl
 · rw [if_neg (by omega), List.getElem?_eq_none (by simpa using hv)]
   rfl
theorem rowsTo_zero (fr : List Int) (n : Nat) : rowsTo fr n 0 = List.replicate n [] := by
 unfold rowsTo
 apply List.ext_getElem?
 intro v
 rw [List.getElem?_map, List.getElem?_replicate]
 by_cases hv : v < n
 · rw [List.getElem?_range hv, if_pos hv]; rfl
 · rw [List.getElem?_eq_none (by simpa using hv), if_neg hv]; rfl
def Round (fr : List Int) (n m : Nat) (gs : List (List Int)) : Prop := gs.length = n ∧ ∀ v, v < n → (gl gs v).Perm (leaveTo fr m v)
theorem prs_zero (ps : List Int) : prs ps 0 = [] := rfl
theorem norm_lt {p : Int × Int} (h : p.1 < p.2) : norm p = p := by unfold norm; rw [if_pos h]
theorem edge_in (ps : List Int) {k i : Nat} (h : i < (makeL (prs ps k)).length) : ∃ u v : Nat, pe (makeL (prs ps k)) i = ((u : Int), (v : Int)) ∧ u < v ∧ v < k := by
 have hm : pe (makeL (prs ps k)) i ∈ makeL (prs ps k) := by
   unfold pe
   rw [List.getD_eq_getElem?_getD, List.getElem?_eq_getElem h]
   exact List.getElem_mem h
 obtain ⟨p, hp, hne, e⟩ := ((makeL_up (prs ps k)).2 _).1 hm
 obtain ⟨q, hq, rfl⟩ := List.mem_iff_getElem.1 hp
 obtain ⟨v, h1, h2, h3, h4, e2⟩ := prs_in ps hq
 have e3 : (prs ps k)[q] = (gi ps v, (v : Int)) := by
   have := pe_of hq
   rw [List.getElem?_eq_getElem hq, e2] at this
   exact Option.some.inj this
 rw [e3, norm_lt (by show gi ps v < (v : Int); exact h4)] at e
 rw [← e]
 exact ⟨(gi ps v).toNat, v, by rw [Int.toNat_of_nonneg h3], by omega, h2⟩
theorem fr_two (es : List (Int × Int)) {i : Nat} (h : i < es.length) : gi (Rot.frs (eds es)) (2 * i) = (pe es i).1 ∧ gi (Rot.frs (eds es)) (2 * i + 1) = (pe es i).2 := by
 unfold Rot.frs
 rw [ends_eds]
 exact Graph.froms_two es i h
theorem info_pair : (Try.prog.info? 52).map (fun i => (i.zero, i.size, i.bytes)) = some (some (.agg #[.int .i64 0, .int .i64 0]), 2, 16) := by kernel_rfl
def Flat (n : Nat) (le : List Ed) (R : List (List Int)) : Prop := ∃ (k : Nat) (o : List Int) (p i : Int) (fs : List (List Int)), tangramref03_Copy.f k (n : Int) le = some ((n : Int), le) ∧ tangramref11_Copy.f k R = some R ∧ comps_Of.f k (n : Int) le = some (o, p, 0) ∧ comps_Isolated.f k (n : Int) le = some (i, 0) ∧ faces_Of.f k (n : Int) le R = some (fs, 0) ∧ faces_Flat.f k (n : Int) le R = some true ∧ (fs.length : Int) = p - i ∧ -9000000 ≤ p - i ∧ p - i ≤ 9000000
theorem own_sl {w : World} {base : Nat} {e : TypeId} {size n : Nat} {v : Value} {xs : List Value} (h : w.ownsRow base e size v n xs) : ∃ A c, v = .slice A n c := by
 rcases h.2 with ⟨rfl, rfl⟩ | ⟨g, cap, cur, rfl, _⟩
 · exact ⟨none, 0, rfl⟩
 · exact ⟨_, _, rfl⟩
theorem leaveTo_length (fr : List Int) (k v : Nat) : (leaveTo fr k v).length ≤ k := by
 unfold leaveTo
 rw [List.length_map]
 exact Nat.le_trans (List.length_filter_le _ _) (by simp)
theorem rotcopy_calls (k bo n : Nat) (gs : List (List Int)) (w : World) (hl : gs.length = n) (h : Kd.C KR w (some ⟨bo, 0, none⟩) gs.length gs) (hc : n ≤ n) (hk : tangramref11_Copy.f k gs = some gs) :
   Calls Try.prog 12 #[.slice (some ⟨bo, 0, none⟩) n n] w fun e w' => ∃ v, e = .returned v ∧ Kd.S KR 36 w' w.heap.size (fun _ => True) v gs ∧ Below w.heap.size w w' := by
 subst hl
 exact tangramref11_Copy.calls k (some ⟨bo, 0, none⟩) gs.length gs gs w h hc hk
theorem flat_calls (k bo n : Nat) (A : Option Addr) (c : Nat) (es : List (Int × Int)) (gs : List (List Int)) (w : World) (hl : gs.length = n) (hg : Kd.C k56 w A (eds es).length (eds es)) (hc : (eds es).length ≤ c) (h : Kd.C KR w (some ⟨bo, 0, none⟩) gs.length gs) (hk : faces_Flat.f k (n : Int) (eds es) gs = some true) :
   Calls Try.prog 20 #[.agg #[.int .i64 (n : Int), .slice A es.length c], .slice (some ⟨bo, 0, none⟩) n n] w fun e w' => e = .returned (.bool true) ∧ Below w.heap.size w w' := by
 subst hl
 have := faces_Flat.calls k (gs.length : Int) A c (eds es) (some ⟨bo, 0, none⟩) gs.length gs true w hg hc h (Nat.le_refl _) hk
 rw [eds_length] at this
 exact this
theorem copy_calls (k n : Nat) (A : Option Addr) (c : Nat) (es : List (Int × Int)) (w : World) (h : Kd.C k56 w A (eds es).length (eds es)) (hc : (eds es).length ≤ c) (hk : tangramref03_Copy.f k (n : Int) (eds es) = some ((n : Int), eds es)) :
   Calls Try.prog 11 #[.agg #[.int .i64 (n : Int), .slice A es.length c]] w fun e w' => ∃ v, e = .returned (.agg #[.int .i64 (n : Int), v]) ∧ Kd.R k56 56 w' w.heap.size (fun _ => True) v (eds es) ∧ Below w.heap.size w w' := by
 have := tangramref03_Copy.calls k (n : Int) A c (eds es) (n : Int) (eds es) w h hc hk
 rw [eds_length] at this
 exact this
set_option maxHeartbeats 6000000 in
set_option maxRecDepth 100000 in
theorem forest_walk (A : Option Addr) (c : Nat) (ps : List Int) (A2 : Option Addr) (c2 : Nat) (rs : List Int) (w : World) (hr : Kd.C (Kd.int .i64) w A ps.length ps) (hr2 : Kd.C (Kd.int .i64) w A2 rs.length rs) (hl1 : ps.length ≤ 20000000000000) (hl2 : rs.length ≤ 20000000000000)
   (hF : ps.length ≤ 2000 → ∀ gs, Round (Rot.frs (eds (makeL (prs ps ps.length)))) ps.length (2 * (makeL (prs ps ps.length)).length) gs → Flat ps.length (eds (makeL (prs ps ps.length))) gs) :
   Calls Try.prog 7 #[.slice A ps.length c, .slice A2 rs.length c2] w fun e w' => e = .returned (.bool true) ∧ Below w.heap.size w w' := by
 obtain ⟨n, hn⟩ : ∃ n, n = ps.length := ⟨_, rfl⟩
 rw [← hn] at hr hF hl1 ⊢
 have HN := Aside0.mk hn
 have HR := Aside0.mk hr
 have HR2 := Aside0.mk hr2
 have HFF := Aside0.mk hF
 clear hr hr2 hF hn
 go_enter Try.func7, Try.ntmps7
 go_wp2_with fail
 refine (tangramlaw12_wakes.calls true _ rfl).mono ?_
 rintro e1 w1 ⟨rfl, hb⟩
 have HB1 := Aside0.mk hb
 clear hb
 by_cases hbig : 2000 < n
 · have s1 : decide ((n : Int) > 2000) = true := decide_eq_true (by omega)
   have s1' : decide (2000 < (n : Int)) = true := decide_eq_true (by omega)
   go_wp2_with fail
   go_ret
   exact ⟨rfl, HB1.out⟩
 have s1 : decide ((n : Int) > 2000) = false := decide_eq_false (by omega)
 have s1' : decide (2000 < (n : Int)) = false := decide_eq_false (by omega)
 have hn2 : n ≤ 2000 := by omega
 clear hbig hl1
 have HO : Aside0 (Kd.R kp 52 w1 w1.heap.size (fun _ => True) (.slice none 0 0) (prs ps 1)) := ⟨by rw [prs_one]; exact Kd.R_nil _ _ _ _ _⟩
 have HB : Aside0 (Below w1.heap.size w1 w1) := ⟨Below.refl _ _⟩
 go_wp2_with fail
 clear s1 s1'
 go_loopw [6, 7] (fun u y ws => ∃ (v M : Nat) (Ap : Option Addr) (cp : Nat), u = .slice Ap M cp ∧ y = .int .i64 (v : Int) ∧ 1 ≤ v ∧ (v ≤ n ∨ v = 1) ∧ Aside0 (M = (prs ps v).length) ∧ Aside0 (Kd.R kp 52 ws w1.heap.size (fun _ => True) (.slice Ap M cp) (prs ps v)) ∧ Aside0 (Below w1.heap.size w1 ws)) (fun _ y _ => n - (intOf y).toNat)
 case atStart => exact ⟨1, 0, none, 0, rfl, rfl, by omega, by omega, ⟨by rw [prs_one]; rfl⟩, HO, HB⟩
 case round =>
   clear HO HB
   obtain ⟨v, M, Ap, cp, rfl, rfl, hv1, hvn, HM, HO, HB⟩ := hrel
   by_cases hlt : v < n
   · obtain ⟨ad, eA, y0⟩ := Kd.at_int (Kd.C_below (Kd.C_below HR.out HB1.out) (HB.out.mono (Nat.le_refl _))) (v : Int) (by omega) (by omega)
     subst eA
     rw [Int.toNat_natCast, gi_rd] at y0
     obtain ⟨x, hx⟩ : ∃ x, x = gi ps v := ⟨_, rfl⟩
     rw [← hx] at y0
     have HX := Aside0.mk hx
     clear hx
     by_cases h0 : 0 ≤ x
     · have s1 : decide (x ≥ 0) = true := decide_eq_true h0
       have s1' : decide (0 ≤ x) = true := decide_eq_true h0
       by_cases h1 : x < (v : Int)
       · have s2 : decide (x < (v : Int)) = true := decide_eq_true h1
         have HP : Aside0 (prs ps (v + 1) = prs ps v ++ [(x, (v : Int))]) := ⟨by rw [prs_succ ps hv1, if_pos (by unfold par; rw [← HX.out]; simp [h0, h1]), ← HX.out]⟩
         have HLB : Aside0 (((prs ps v).length + 1) * 16 ≤ 140737488355328) := ⟨by have := prs_length ps v; omega⟩
         have HSZ : Aside0 (w1.heap.size ≤ wr.heap.size) := ⟨HB.out.size⟩
         clear h0 h1
         go_wp2_with ((with_reducible refine gate_builtin (b := .append) (xs := #[.tmp 48, .tmp 55]) rfl ?_); at_builtin; refine Kd.R_append kp (w0 := w1) (W := wr) w1.heap.size rfl (.tmp 48) (.tmp 55) 51 52 (.agg #[.int .i64 0, .int .i64 0]) 16 rfl Try.underlying51 info_pair rfl (by decide) (by decide) (.slice Ap M cp) (prs ps v) (x, (v : Int)) [.int .i64 x, .int .i64 (v : Int)] (fun _ => True) (fun _ => False) rfl rfl rfl (fun _ hk => hk.elim) (fun _ _ => trivial) HO.out HB.out HSZ.out HLB.out ?_)
         intro v6 w6 hR hb6 _ _
         obtain ⟨A6, c6, rfl⟩ := Kd.R_slice hR
         have HL6 : Aside0 ((prs ps v ++ [(x, (v : Int))]).length = (prs ps (v + 1)).length) := ⟨by rw [HP.out]⟩
         rw [← HP.out] at hR ⊢
         obtain ⟨M6, hM6⟩ : ∃ M6, M6 = (prs ps (v + 1)).length := ⟨_, rfl⟩
         rw [← hM6] at hR ⊢
         have HM6 := Aside0.mk hM6
         have HO6 := Aside0.mk hR
         have HB6 := Aside0.mk hb6
         clear hR hb6 HO HB HSZ HLB y0 hM6 HL6 HP HM HX
         go_wp2_with fail
         clear s1 s1' s2
         go_roundw
         case rel => exact ⟨v + 1, M6, A6, c6, rfl, by go_num, by omega, by omega, HM6, HO6, HB6⟩
         case measure => simp [intOf]; omega
       · have s2 : decide (x < (v : Int)) = false := decide_eq_false h1
         have HP : Aside0 (prs ps (v + 1) = prs ps v) := ⟨by rw [prs_succ ps hv1, if_neg (by unfold par; rw [← HX.out]; simp; omega)]⟩
         clear h0 h1
         go_wp2_with fail
         clear s1 s1' s2 y0
         go_roundw
         case rel => exact ⟨v + 1, M, Ap, cp, rfl, by go_num, by omega, by omega, ⟨by rw [HP.out]; exact HM.out⟩, ⟨by rw [HP.out]; exact HO.out⟩, HB⟩
         case measure => simp [intOf]; omega
     · have s1 : decide (x ≥ 0) = false := decide_eq_false h0
       have s1' : decide (0 ≤ x) = false := decide_eq_false h0
       have HP : Aside0 (prs ps (v + 1) = prs ps v) := ⟨by rw [prs_succ ps hv1, if_neg (by unfold par; rw [← HX.out]; simp; omega)]⟩
       clear h0
       go_wp2_with fail
       clear s1 s1' y0
       go_roundw
       case rel => exact ⟨v + 1, M, Ap, cp, rfl, by go_num, by omega, by omega, ⟨by rw [HP.out]; exact HM.out⟩, ⟨by rw [HP.out]; exact HO.out⟩, HB⟩
       case measure => simp [intOf]; omega
   · have hvv : prs ps v = prs ps n := by
       rcases hvn with h | h
       · rw [show v = n by omega]
       · rcases Nat.lt_or_ge 0 n with h2 | h2
         · rw [show v = n by omega]
         · rw [h, prs_one, show n = 0 by omega, prs_zero]
     have HVV := Aside0.mk hvv
     obtain ⟨L, hL⟩ : ∃ L, L = prs ps n := ⟨_, rfl⟩
     have HLQ := Aside0.mk hL
     have HML : Aside0 (M = L.length) := ⟨by rw [HM.out, hvv, hL]⟩
     obtain rfl := HML.out
     have HO2 : Aside0 (Kd.R kp 52 wr w1.heap.size (fun _ => True) (.slice Ap L.length cp) L) := ⟨by have := HO.out; rw [hvv, ← hL] at this; exact this⟩
     have HPL : Aside0 (L.length ≤ n) := ⟨by rw [hL]; exact prs_length _ _⟩
     have HCP : Aside0 (L.length ≤ cp) := ⟨(Kd.R_reads' HO2.out).2.1⟩
     have hml : (makeL L).length ≤ L.length := by
       have := makeL_length L L.length (Nat.le_refl _)
       rwa [List.take_length] at this
     have HMK : Aside0 ((makeL L).length ≤ 2000) := ⟨by have := HPL.out; omega⟩
     have HRG : Aside0 (∀ i, i < L.length → 0 ≤ (pe L i).1 ∧ (pe L i).1 < n ∧ 0 ≤ (pe L i).2 ∧ (pe L i).2 < n) := ⟨fun i hi => by
       rw [hL] at hi ⊢
       obtain ⟨v, h1, h2, h3, h4, e⟩ := prs_in ps hi
       rw [e]
       simp only
       omega⟩
     have HB2 : Aside0 (Below w.heap.size w wr) := ⟨HB1.out.trans (HB.out.mono HB1.out.size)⟩
     have sv : decide (v < n) = false := decide_eq_false hlt
     clear hvv hL hml HVV HO HB HM hv1 hvn
     go_wp2_with fail
     clear sv hlt
     refine (make_calls n Ap cp L wr (PR.of_R HO2.out) HCP.out (by omega) HRG.out (by have := HPL.out; omega) (by have := HMK.out; omega)).mono ?_
     rintro e w5 ⟨vv, rfl, hR, hb⟩
     obtain ⟨Ag, cg, rfl⟩ := Kd.R_slice hR
     obtain ⟨es, hes⟩ : ∃ es, es = makeL L := ⟨_, rfl⟩
     rw [← hes] at hR ⊢
     have HES := Aside0.mk hes
     have HR5 := Aside0.mk hR
     have HB5 := Aside0.mk (HB2.out.trans (hb.mono HB2.out.size))
     have HEB : Aside0 (es.length ≤ 2000) := ⟨by rw [hes]; exact HMK.out⟩
     clear hR hb hes HO2 HCP HRG HB2 HML
     have HB7 : Aside0 (Below w.heap.size w (w5.alloc (.cells #[.int .i64 (n : Int), .slice Ag es.length cg] 24 (0, 0)))) := ⟨HB5.out.alloc HB5.out.size _⟩
     have HX7 := Aside0.mk (heap_last w5 (.cells #[.int .i64 (n : Int), .slice Ag es.length cg] 24 (0, 0)))
     have HR7 := Aside0.mk (Kd.R_alloc HR5.out (.cells #[.int .i64 (n : Int), .slice Ag es.length cg] 24 (0, 0)))
     have mk1 := print_make_of (P := Try.prog) 26 36 (.slice none 0 0) 24 Try.underlying26 info_ints rfl (by decide) n (by omega)
     rw [made_nil] at mk1
     obtain ⟨bg, hbg⟩ : ∃ bg, bg = w5.heap.size := ⟨_, rfl⟩
     rw [← hbg] at HX7
     go_upto_region 16 with (fail)
     rw [← hbg]
     have h7 : (w5.alloc (.cells #[.int .i64 (n : Int), .slice Ag es.length cg] 24 (0, 0))).heap.size = bg + 1 := by rw [hbg]; simp
     generalize w5.alloc (.cells #[.int .i64 (n : Int), .slice Ag es.length cg] 24 (0, 0)) = w7 at HB7 HX7 HR7 h7 ⊢
     obtain ⟨bo, hbo1⟩ : ∃ bo, bo = bg + 1 := ⟨_, rfl⟩
     rw [← hbo1] at h7 ⊢
     have hbo : bo = w7.heap.size := h7.symm
     have HBO := Aside0.mk hbo
     clear h7 hbo1
     have HG : Aside0 (Rows2 (w7.alloc (.cells (Array.replicate n (Value.slice none 0 0)) 36 (0, 0))) (bo + 1) bo (List.replicate n (.slice none 0 0)) (List.replicate n [])) := ⟨by rw [hbo]; exact Rows2.start w7 n⟩
     have HB : Aside0 (Below w7.heap.size w7 (w7.alloc (.cells (Array.replicate n (Value.slice none 0 0)) 36 (0, 0)))) := ⟨(Below.refl _ _).alloc (Nat.le_refl _) _⟩
     try rw [← hbo]
     clear hbo hbg mk1 HR5 HB5
     generalize w7.alloc (.cells (Array.replicate n (Value.slice none 0 0)) 36 (0, 0)) = w8 at HG HB ⊢
     have G1 : Aside0 (w7.cell? ⟨bg, 1, none⟩ = some (.slice Ag es.length cg)) := ⟨heap_cell HX7.out rfl⟩
     have HPE : Aside0 (PR w7 Ag es) := ⟨PR.of_R HR7.out⟩
     obtain ⟨fr, hfr⟩ : ∃ fr, fr = Rot.frs (eds es) := ⟨_, rfl⟩
     have HFRQ := Aside0.mk hfr
     have HG0 : Aside0 (∃ vs, Rows2 w8 (bo + 1) bo vs (rowsTo fr n (2 * 0))) := ⟨_, by rw [Nat.mul_zero, rowsTo_zero]; exact HG.out⟩
     clear HG hfr
     go_wp2_with fail
     go_loopw [11] (fun y ws => ∃ (i : Nat), y = .int .i64 (i : Int) ∧ i ≤ es.length ∧ Aside0 (∃ vs, Rows2 ws (bo + 1) bo vs (rowsTo fr n (2 * i))) ∧ Aside0 (Below w7.heap.size w7 ws)) (fun y _ => es.length - (intOf y).toNat)
     case atStart => exact ⟨0, rfl, by omega, HG0, HB⟩
     case round =>
       clear HG0 HB
       obtain ⟨i, rfl, hi, HG, HB⟩ := hrel
       have y1 : wr.cell? ⟨bg, 1, none⟩ = some (.slice Ag es.length cg) := (HB.out.cell (cell_lt G1.out)).trans G1.out
       by_cases hlt : i < es.length
       · obtain ⟨vs1, hG⟩ := HG.out
         have HG1 := Aside0.mk hG
         obtain ⟨gE, hgE, _, _⟩ := HPE.out i hlt
         subst hgE
         obtain ⟨u, v, euv, huv, hvn⟩ : ∃ u v : Nat, pe es i = ((u : Int), (v : Int)) ∧ u < v ∧ v < n := by
           have := HES.out
           rw [HLQ.out] at this
           rw [this] at hlt ⊢
           exact edge_in ps hlt
         have hun : u < n := by omega
         have HUV : Aside0 (pe es i = ((u : Int), (v : Int)) ∧ gi fr (2 * i) = (u : Int) ∧ gi fr (2 * i + 1) = (v : Int)) := ⟨euv, by rw [HFRQ.out, (fr_two es hlt).1, euv], by rw [HFRQ.out, (fr_two es hlt).2, euv]⟩
         have HEB2 := HEB.out
         obtain ⟨q0, hq0⟩ : ∃ q0, q0 = 2 * i := ⟨_, rfl⟩
         obtain ⟨q1, hq1⟩ : ∃ q1, q1 = 2 * i + 1 := ⟨_, rfl⟩
         have r0 : IntKind.i64.wrap (2 * (i : Int)) = (q0 : Int) := by rw [IntWalk.i64_in _ (by omega)]; omega
         have r1 : IntKind.i64.wrap ((q0 : Int) + 1) = (q1 : Int) := by rw [IntWalk.i64_in _ (by omega)]; omega
         have HQ0 : Aside0 (q0 = 2 * i ∧ q1 = 2 * i + 1 ∧ q0 + 1 = q1 ∧ 2 * (i + 1) = q1 + 1) := ⟨by omega⟩
         rw [← hq0] at HG1
         have HUV0 : Aside0 (gi fr q0 = (u : Int)) := ⟨by rw [hq0]; exact HUV.out.2.1⟩
         have HUV1 : Aside0 (gi fr q1 = (v : Int)) := ⟨by rw [hq1]; exact HUV.out.2.2⟩
         have hqb : q1 ≤ 4001 := by omega
         have hqa : q0 ≤ 4001 := by omega
         clear hG HG euv huv hq0 hq1
         go_wp2_with fail
         clear y1
         have HVB : Aside0 (u < n) := ⟨hun⟩
         obtain ⟨row, hrow⟩ : ∃ row, row = gl (rowsTo fr n q0) u := ⟨_, rfl⟩
         have ho := HG1.out.own u (by rw [rowsTo_length]; exact HVB.out)
         rw [← hrow] at ho
         obtain ⟨Av, cv, hV⟩ := own_sl ho
         have HV := Aside0.mk hV
         rw [hV] at ho
         have hcl := HG1.out.cell (j := u) (by rw [rowsTo_length]; exact HVB.out)
         rw [hV] at hcl
         have hrl : row.length ≤ 9000 := by rw [hrow, gl_rowsTo HVB.out]; exact Nat.le_trans (leaveTo_length _ _ _) (by omega)
         have HRW := Aside0.mk hrow
         have HRL := Aside0.mk hrl
         have HO : Aside0 (wr.drew.ownsRow (bo + 1) 3 1 (.slice Av row.length cv) row.length (encs (Value.int .i64) row)) := ⟨ho⟩
         have HGD : Aside0 (Rows2 wr.drew (bo + 1) bo vs1 (rowsTo fr n q0)) := ⟨⟨HG1.out.len, HG1.out.out, HG1.out.own, HG1.out.col, HG1.out.base⟩⟩
         have HBD : Aside0 (Below w7.heap.size w7 wr.drew) := ⟨HB.out.drew⟩
         have HS0 : Aside0 (wr.drew.cell? ⟨bg, 1, none⟩ = some (.slice (some ⟨gE, 0, none⟩) es.length cg)) := ⟨(HBD.out.cell (cell_lt G1.out)).trans G1.out⟩
         obtain ⟨gE2, eE, z1, z2⟩ := HPE.out i hlt
         obtain rfl : gE = gE2 := by injection eE with eE; injection eE
         rw [HUV.out.1] at z1 z2
         have HZ : Aside0 (w7.cell? ⟨gE, i * 2, none⟩ = some (.int .i64 (u : Int))) := ⟨z1⟩
         have HS1 : Aside0 (wr.drew.cell? ⟨gE, i * 2, none⟩ = some (.int .i64 (u : Int))) := ⟨(HBD.out.cell (cell_lt HZ.out)).trans HZ.out⟩
         have HS2 : Aside0 (wr.drew.cell? ⟨bo, u, none⟩ = some (.slice Av row.length cv)) := ⟨hcl⟩
         clear ho hV hcl hrow hrl z1 z2 eE HG1 HB
         go_wp2_with fail
         refine start_ (n := 22) (S := fun w' => w'.cell? ⟨bg, 1, none⟩ = some (.slice (some ⟨gE, 0, none⟩) es.length cg) ∧ w'.cell? ⟨gE, i * 2, none⟩ = some (.int .i64 (u : Int)) ∧ w'.cell? ⟨bo, u, none⟩ = some (.slice Av row.length cv)) (ds := [21]) #[false, false, false, false, false, false, false, false, false, false, false, false, false, false, false, false, false, false, false, false, false, false] (by kernel_rfl) rfl rfl ⟨HS0.out, HS1.out, HS2.out⟩ (fun hHeld => ?_)
         refine pure_ (i := 0) (N := some 74) (v := ?_) (a' := ?_) #[true, false, false, false, false, false, false, false, false, false, false, false, false, false, false, false, false, false, false, false, false, false] rfl rfl (by kernel_rfl) (fun _ _ _ h => h) (Or.inl ⟨by rfl, ?_⟩) ?_ ?_
         rotate_left
         · intro w'
           go_simp
           with_reducible rfl
         rotate_left
         · simp only [Act.put, List.setIfInBounds_toArray, List.set_cons_zero, List.set_cons_succ, i64_w, i32_w]
           rfl
         refine pure_ (i := 1) (N := some 75) (v := ?_) (a' := ?_) #[true, true, false, false, false, false, false, false, false, false, false, false, false, false, false, false, false, false, false, false, false, false] rfl rfl (by kernel_rfl) (fun _ _ _ h => h) (Or.inl ⟨by rfl, ?_⟩) ?_ ?_
         rotate_left
         · intro w'
           go_simp
           with_reducible rfl
         rotate_left
         · simp only [Act.put, List.setIfInBounds_toArray, List.set_cons_zero, List.set_cons_succ, i64_w, i32_w]
           rfl
         refine pure_ (i := 3) (N := some 77) (v := ?_) (a' := ?_) #[true, true, false, true, false, false, false, false, false, false, false, false, false, false, false, false, false, false, false, false, false, false] rfl rfl (by kernel_rfl) (fun _ _ _ h => h) (Or.inl ⟨by rfl, ?_⟩) ?_ ?_
         rotate_left
         · intro w'
           go_simp
           with_reducible rfl
         rotate_left
         · simp only [Act.put, List.setIfInBounds_toArray, List.set_cons_zero, List.set_cons_succ, i64_w, i32_w]
           rfl
         refine pure_ (i := 7) (N := some 81) (v := ?_) (a' := ?_) #[true, true, false, true, false, false, false, true, false, false, false, false, false, false, false, false, false, false, false, false, false, false] rfl rfl (by kernel_rfl) (fun _ _ _ h => h) (Or.inl ⟨by rfl, ?_⟩) ?_ ?_
         rotate_left
         · intro w'
           go_simp
           with_reducible rfl
         rotate_left
         · simp only [Act.put, List.setIfInBounds_toArray, List.set_cons_zero, List.set_cons_succ, i64_w, i32_w]
           rfl
         refine pure_ (i := 8) (N := some 82) (v := ?_) (a' := ?_) #[true, true, false, true, false, false, false, true, true, false, false, false, false, false, false, false, false, false, false, false, false, false] rfl rfl (by kernel_rfl) (fun _ _ _ h => h) (Or.inl ⟨by rfl, ?_⟩) ?_ ?_
         rotate_left
         · intro w'
           go_simp
           with_reducible rfl
         rotate_left
         · simp only [Act.put, List.setIfInBounds_toArray, List.set_cons_zero, List.set_cons_succ, i64_w, i32_w]
           rfl
         refine pure_ (i := 10) (N := some 84) (v := ?_) (a' := ?_) #[true, true, false, true, false, false, false, true, true, false, true, false, false, false, false, false, false, false, false, false, false, false] rfl rfl (by kernel_rfl) (fun _ _ _ h => h) (Or.inl ⟨by rfl, ?_⟩) ?_ ?_
         rotate_left
         · intro w'
           go_simp
           with_reducible rfl
         rotate_left
         · simp only [Act.put, List.setIfInBounds_toArray, List.set_cons_zero, List.set_cons_succ, i64_w, i32_w]
           rfl
         refine pure_ (i := 16) (N := some 90) (v := ?_) (a' := ?_) #[true, true, false, true, false, false, false, true, true, false, true, false, false, false, false, false, true, false, false, false, false, false] rfl rfl (by kernel_rfl) (fun _ _ _ h => h) (Or.inl ⟨by rfl, ?_⟩) ?_ ?_
         rotate_left
         · intro w'
           go_simp
           with_reducible rfl
         rotate_left
         · simp only [Act.put, List.setIfInBounds_toArray, List.set_cons_zero, List.set_cons_succ, i64_w, i32_w]
           rfl
         refine pure_ (i := 17) (N := some 91) (v := ?_) (a' := ?_) #[true, true, false, true, false, false, false, true, true, false, true, false, false, false, false, false, true, true, false, false, false, false] rfl rfl (by kernel_rfl) (fun _ _ _ h => h) (Or.inl ⟨by rfl, ?_⟩) ?_ ?_
         rotate_left
         · intro w'
           go_simp
           with_reducible rfl
         rotate_left
         · simp only [Act.put, List.setIfInBounds_toArray, List.set_cons_zero, List.set_cons_succ, i64_w, i32_w]
           rfl
         refine take_ (i := 2) (N := some 76) (v := ?_) (a' := ?_) #[true, true, true, true, false, false, false, true, true, false, true, false, false, false, false, false, true, true, false, false, false, false] rfl rfl (by kernel_rfl) (fun _ _ _ h => h) (Or.inl ⟨by rfl, ?_⟩) hHeld ?_ ?_
         rotate_left
         · rintro w' ⟨s0, s1, s2⟩
           go_simp
           with_reducible rfl
         rotate_left
         · simp only [Act.put, List.setIfInBounds_toArray, List.set_cons_zero, List.set_cons_succ, i64_w, i32_w]
           rfl
         refine pure_ (i := 4) (N := some 78) (v := ?_) (a' := ?_) #[true, true, true, true, true, false, false, true, true, false, true, false, false, false, false, false, true, true, false, false, false, false] rfl rfl (by kernel_rfl) (fun _ _ _ h => h) (Or.inl ⟨by rfl, ?_⟩) ?_ ?_
         rotate_left
         · intro w'
           go_simp
           with_reducible rfl
         rotate_left
         · simp only [Act.put, List.setIfInBounds_toArray, List.set_cons_zero, List.set_cons_succ, i64_w, i32_w]
           rfl
         refine pure_ (i := 5) (N := some 79) (v := ?_) (a' := ?_) #[true, true, true, true, true, true, false, true, true, false, true, false, false, false, false, false, true, true, false, false, false, false] rfl rfl (by kernel_rfl) (fun _ _ _ h => h) (Or.inl ⟨by rfl, ?_⟩) ?_ ?_
         rotate_left
         · intro w'
           go_simp
           with_reducible rfl
         rotate_left
         · simp only [Act.put, List.setIfInBounds_toArray, List.set_cons_zero, List.set_cons_succ, i64_w, i32_w]
           rfl
         refine take_ (i := 6) (N := some 80) (v := ?_) (a' := ?_) #[true, true, true, true, true, true, true, true, true, false, true, false, false, false, false, false, true, true, false, false, false, false] rfl rfl (by kernel_rfl) (fun _ _ _ h => h) (Or.inl ⟨by rfl, ?_⟩) hHeld ?_ ?_
         rotate_left
         · rintro w' ⟨s0, s1, s2⟩
           go_simp
           with_reducible rfl
         rotate_left
         · simp only [Act.put, List.setIfInBounds_toArray, List.set_cons_zero, List.set_cons_succ, i64_w, i32_w]
           rfl
         refine take_ (i := 9) (N := some 83) (v := ?_) (a' := ?_) #[true, true, true, true, true, true, true, true, true, true, true, false, false, false, false, false, true, true, false, false, false, false] rfl rfl (by kernel_rfl) (fun _ _ _ h => h) (Or.inl ⟨by rfl, ?_⟩) hHeld ?_ ?_
         rotate_left
         · rintro w' ⟨s0, s1, s2⟩
           go_simp
           with_reducible rfl
         rotate_left
         · simp only [Act.put, List.setIfInBounds_toArray, List.set_cons_zero, List.set_cons_succ, i64_w, i32_w]
           rfl
         refine pure_ (i := 11) (N := some 85) (v := ?_) (a' := ?_) #[true, true, true, true, true, true, true, true, true, true, true, true, false, false, false, false, true, true, false, false, false, false] rfl rfl (by kernel_rfl) (fun _ _ _ h => h) (Or.inl ⟨by rfl, ?_⟩) ?_ ?_
         rotate_left
         · intro w'
           go_simp
           with_reducible rfl
         rotate_left
         · simp only [Act.put, List.setIfInBounds_toArray, List.set_cons_zero, List.set_cons_succ, i64_w, i32_w]
           rfl
         refine pure_ (i := 12) (N := some 86) (v := ?_) (a' := ?_) #[true, true, true, true, true, true, true, true, true, true, true, true, true, false, false, false, true, true, false, false, false, false] rfl rfl (by kernel_rfl) (fun _ _ _ h => h) (Or.inl ⟨by rfl, ?_⟩) ?_ ?_
         rotate_left
         · intro w'
           go_simp
           with_reducible rfl
         rotate_left
         · simp only [Act.put, List.setIfInBounds_toArray, List.set_cons_zero, List.set_cons_succ, i64_w, i32_w]
           rfl
         refine take_ (i := 13) (N := some 87) (v := ?_) (a' := ?_) #[true, true, true, true, true, true, true, true, true, true, true, true, true, true, false, false, true, true, false, false, false, false] rfl rfl (by kernel_rfl) (fun _ _ _ h => h) (Or.inl ⟨by rfl, ?_⟩) hHeld ?_ ?_
         rotate_left
         · rintro w' ⟨s0, s1, s2⟩
           go_simp
           with_reducible rfl
         rotate_left
         · simp only [Act.put, List.setIfInBounds_toArray, List.set_cons_zero, List.set_cons_succ, i64_w, i32_w]
           rfl
         refine pure_ (i := 14) (N := some 88) (v := ?_) (a' := ?_) #[true, true, true, true, true, true, true, true, true, true, true, true, true, true, true, false, true, true, false, false, false, false] rfl rfl (by kernel_rfl) (fun _ _ _ h => h) (Or.inl ⟨by rfl, ?_⟩) ?_ ?_
         rotate_left
         · intro w'
           go_simp
           with_reducible rfl
         rotate_left
         · simp only [Act.put, List.setIfInBounds_toArray, List.set_cons_zero, List.set_cons_succ, i64_w, i32_w]
           rfl
         refine take_ (i := 15) (N := some 89) (v := ?_) (a' := ?_) #[true, true, true, true, true, true, true, true, true, true, true, true, true, true, true, true, true, true, false, false, false, false] rfl rfl (by kernel_rfl) (fun _ _ _ h => h) (Or.inl ⟨by rfl, ?_⟩) hHeld ?_ ?_
         rotate_left
         · rintro w' ⟨s0, s1, s2⟩
           go_simp
           with_reducible rfl
         rotate_left
         · simp only [Act.put, List.setIfInBounds_toArray, List.set_cons_zero, List.set_cons_succ, i64_w, i32_w]
           rfl
         refine one_ (i := 18) (N := some 92) #[true, true, true, true, true, true, true, true, true, true, true, true, true, true, true, true, true, true, true, false, false, false] rfl rfl (by kernel_rfl) (by decide) (fun K hK => ?_)
         refine value_ (w1 := ?_) (v := ?_) (by rfl) rfl ?_ ?_
         rotate_left 2
         · go_simp
           constructor
           · rfl
           · rfl
         refine hK.out _ _ ⟨(World.cell?_alloc_lt _ _ _ (World.block_lt_of_cell? _ _ hHeld.1)).trans hHeld.1, (World.cell?_alloc_lt _ _ _ (World.block_lt_of_cell? _ _ hHeld.2.1)).trans hHeld.2.1, (World.cell?_alloc_lt _ _ _ (World.block_lt_of_cell? _ _ hHeld.2.2)).trans hHeld.2.2⟩ (fun hHeld => ?_)
         clear hK K
         refine norm_ (a' := ?_) ?_ ?_
         rotate_left
         · show Act.put _ (some 92) _ = _
           simp only [Act.put, List.setIfInBounds_toArray, List.set_cons_zero, List.set_cons_succ, i64_w, i32_w]
           rfl
         refine one_ (i := 19) (N := some 93) #[true, true, true, true, true, true, true, true, true, true, true, true, true, true, true, true, true, true, true, true, false, false] rfl rfl (by kernel_rfl) (by decide) (fun K hK => ?_)
         refine step_append_cells (bo + 1) (by rfl) (.tmp 89) (.tmp 92) 36 3 (.int .i64 0) 1 8 rfl Try.underlying36 info_int rfl (by decide) (by omega) (.slice Av row.length cv) row.length (encs (Value.int .i64) row) [.int .i64 (q0 : Int)] rfl rfl rfl ?aN HO.out (Below.refl _ _) HGD.out.base ?aL ?_
         (case aN => intro u hu; simp at hu; subst hu; rfl)
         (case aL => have := HRL.out; omega)
         intro v1 w6 hown hb hg hat
         obtain ⟨A', c', rfl⟩ := own_sl hown
         have g1 := Rows2.app HGD.out (k := u) (by rw [rowsTo_length]; exact HVB.out) (v' := .slice A' (row.length + 1) c') (x := (q0 : Int)) (by rw [← HRW.out]; exact hown) (by rw [HV.out]; exact hg) (by rw [HV.out]; exact hat)
         rw [rowsTo_succ HVB.out HUV0.out] at g1
         have HG6 := Aside0.mk g1
         have HBa := Aside0.mk (HBD.out.grown hg HBD.out.size (fun k hk => by have := (HO.out.lt k hk).1; have := HBO.out; omega))
         have HB6 := Aside0.mk (HBa.out.setCell (p := ⟨bo, u, none⟩) (by have := HBO.out; simp; omega) (.slice A' (row.length + 1) c'))
         have ho1 : w6.heap[bo]? = some (.cells vs1.toArray 36 (0, 0)) := (hg.block bo (lt_of HGD.out.out) (fun e => by have := (HO.out.lt bo e.symm).1; omega)).trans HGD.out.out
         have fz := heap_free ho1 u
         have cz : w6.cell? ⟨bo, u, none⟩ = some (.slice Av row.length cv) := by rw [← HV.out]; exact heap_cell ho1 (by have := HGD.out.len; rw [rowsTo_length] at this; simp [va_of (show u < vs1.length by have := HVB.out; omega)])
         refine hK.out _ _ ⟨(HBa.out.cell (cell_lt G1.out)).trans G1.out, (HBa.out.cell (cell_lt HZ.out)).trans HZ.out, cz⟩ (fun hHeld => ?_)
         clear hK K
         refine norm_ (a' := ?_) ?_ ?_
         rotate_left
         · show Act.put _ (some 93) _ = _
           simp only [Act.put, List.setIfInBounds_toArray, List.set_cons_zero, List.set_cons_succ, i64_w, i32_w]
           rfl
         refine pure_ (i := 20) (N := some 94) (v := ?_) (a' := ?_) #[true, true, true, true, true, true, true, true, true, true, true, true, true, true, true, true, true, true, true, true, true, false] rfl rfl (by kernel_rfl) (fun _ _ _ h => h) (Or.inl ⟨by rfl, ?_⟩) ?_ ?_
         rotate_left
         · intro w'
           go_simp
           with_reducible rfl
         rotate_left
         · simp only [Act.put, List.setIfInBounds_toArray, List.set_cons_zero, List.set_cons_succ, i64_w, i32_w]
           rfl
         refine last_ (i := 21) (N := none) #[true, true, true, true, true, true, true, true, true, true, true, true, true, true, true, true, true, true, true, true, true, true] rfl rfl (by kernel_rfl) (by decide) (fun K hK => ?_)
         refine skip_ (w1 := ?_) (by rfl) rfl ?_ ?_
         rotate_left
         · go_simp
           rfl
         refine hK.out _ _ ?_
         clear hK K
         refine done_ (by kernel_rfl) ?_
         clear HO HGD HBD HS0 HS1 HS2 hown hg hat hb g1 ho1 fz cz HBa HZ
         obtain ⟨vs2, hvs2⟩ : ∃ vs2, vs2 = vs1.set u (.slice A' (row.length + 1) c') := ⟨_, rfl⟩
         rw [← hvs2, HQ0.out.2.2.1] at HG6
         generalize w6.setCell ⟨bo, u, none⟩ (.slice A' (row.length + 1) c') = wA at HG6 HB6 ⊢
         clear hvs2 HV HRW HRL HVB
         have HVB : Aside0 (v < n) := ⟨hvn⟩
         obtain ⟨row, hrow⟩ : ∃ row, row = gl (rowsTo fr n q1) v := ⟨_, rfl⟩
         have ho := HG6.out.own v (by rw [rowsTo_length]; exact HVB.out)
         rw [← hrow] at ho
         obtain ⟨Av, cv, hV⟩ := own_sl ho
         have HV := Aside0.mk hV
         rw [hV] at ho
         have hcl := HG6.out.cell (j := v) (by rw [rowsTo_length]; exact HVB.out)
         rw [hV] at hcl
         have hrl : row.length ≤ 9000 := by rw [hrow, gl_rowsTo HVB.out]; exact Nat.le_trans (leaveTo_length _ _ _) (by omega)
         have HRW := Aside0.mk hrow
         have HRL := Aside0.mk hrl
         have HO : Aside0 (wA.drew.ownsRow (bo + 1) 3 1 (.slice Av row.length cv) row.length (encs (Value.int .i64) row)) := ⟨ho⟩
         have HGD : Aside0 (Rows2 wA.drew (bo + 1) bo vs2 (rowsTo fr n q1)) := ⟨⟨HG6.out.len, HG6.out.out, HG6.out.own, HG6.out.col, HG6.out.base⟩⟩
         have HBD : Aside0 (Below w7.heap.size w7 wA.drew) := ⟨HB6.out.drew⟩
         have HS0 : Aside0 (wA.drew.cell? ⟨bg, 1, none⟩ = some (.slice (some ⟨gE, 0, none⟩) es.length cg)) := ⟨(HBD.out.cell (cell_lt G1.out)).trans G1.out⟩
         obtain ⟨gE2, eE, z1, z2⟩ := HPE.out i hlt
         obtain rfl : gE = gE2 := by injection eE with eE; injection eE
         rw [HUV.out.1] at z1 z2
         have HZ : Aside0 (w7.cell? ⟨gE, i * 2 + 1, none⟩ = some (.int .i64 (v : Int))) := ⟨z2⟩
         have HS1 : Aside0 (wA.drew.cell? ⟨gE, i * 2 + 1, none⟩ = some (.int .i64 (v : Int))) := ⟨(HBD.out.cell (cell_lt HZ.out)).trans HZ.out⟩
         have HS2 : Aside0 (wA.drew.cell? ⟨bo, v, none⟩ = some (.slice Av row.length cv)) := ⟨hcl⟩
         clear ho hV hcl hrow hrl z1 z2 eE HG6 HB6
         go_wp2_with fail
         refine start_ (n := 23) (S := fun w' => w'.cell? ⟨bg, 1, none⟩ = some (.slice (some ⟨gE, 0, none⟩) es.length cg) ∧ w'.cell? ⟨gE, i * 2 + 1, none⟩ = some (.int .i64 (v : Int)) ∧ w'.cell? ⟨bo, v, none⟩ = some (.slice Av row.length cv)) (ds := [22]) #[false, false, false, false, false, false, false, false, false, false, false, false, false, false, false, false, false, false, false, false, false, false, false] (by kernel_rfl) rfl rfl ⟨HS0.out, HS1.out, HS2.out⟩ (fun hHeld => ?_)
         refine pure_ (i := 0) (N := some 95) (v := ?_) (a' := ?_) #[true, false, false, false, false, false, false, false, false, false, false, false, false, false, false, false, false, false, false, false, false, false, false] rfl rfl (by kernel_rfl) (fun _ _ _ h => h) (Or.inl ⟨by rfl, ?_⟩) ?_ ?_
         rotate_left
         · intro w'
           go_simp
           with_reducible rfl
         rotate_left
         · simp only [Act.put, List.setIfInBounds_toArray, List.set_cons_zero, List.set_cons_succ, i64_w, i32_w]
           rfl
         refine pure_ (i := 1) (N := some 96) (v := ?_) (a' := ?_) #[true, true, false, false, false, false, false, false, false, false, false, false, false, false, false, false, false, false, false, false, false, false, false] rfl rfl (by kernel_rfl) (fun _ _ _ h => h) (Or.inl ⟨by rfl, ?_⟩) ?_ ?_
         rotate_left
         · intro w'
           go_simp
           with_reducible rfl
         rotate_left
         · simp only [Act.put, List.setIfInBounds_toArray, List.set_cons_zero, List.set_cons_succ, i64_w, i32_w]
           rfl
         refine pure_ (i := 3) (N := some 98) (v := ?_) (a' := ?_) #[true, true, false, true, false, false, false, false, false, false, false, false, false, false, false, false, false, false, false, false, false, false, false] rfl rfl (by kernel_rfl) (fun _ _ _ h => h) (Or.inl ⟨by rfl, ?_⟩) ?_ ?_
         rotate_left
         · intro w'
           go_simp
           with_reducible rfl
         rotate_left
         · simp only [Act.put, List.setIfInBounds_toArray, List.set_cons_zero, List.set_cons_succ, i64_w, i32_w]
           rfl
         refine pure_ (i := 7) (N := some 102) (v := ?_) (a' := ?_) #[true, true, false, true, false, false, false, true, false, false, false, false, false, false, false, false, false, false, false, false, false, false, false] rfl rfl (by kernel_rfl) (fun _ _ _ h => h) (Or.inl ⟨by rfl, ?_⟩) ?_ ?_
         rotate_left
         · intro w'
           go_simp
           with_reducible rfl
         rotate_left
         · simp only [Act.put, List.setIfInBounds_toArray, List.set_cons_zero, List.set_cons_succ, i64_w, i32_w]
           rfl
         refine pure_ (i := 8) (N := some 103) (v := ?_) (a' := ?_) #[true, true, false, true, false, false, false, true, true, false, false, false, false, false, false, false, false, false, false, false, false, false, false] rfl rfl (by kernel_rfl) (fun _ _ _ h => h) (Or.inl ⟨by rfl, ?_⟩) ?_ ?_
         rotate_left
         · intro w'
           go_simp
           with_reducible rfl
         rotate_left
         · simp only [Act.put, List.setIfInBounds_toArray, List.set_cons_zero, List.set_cons_succ, i64_w, i32_w]
           rfl
         refine pure_ (i := 10) (N := some 105) (v := ?_) (a' := ?_) #[true, true, false, true, false, false, false, true, true, false, true, false, false, false, false, false, false, false, false, false, false, false, false] rfl rfl (by kernel_rfl) (fun _ _ _ h => h) (Or.inl ⟨by rfl, ?_⟩) ?_ ?_
         rotate_left
         · intro w'
           go_simp
           with_reducible rfl
         rotate_left
         · simp only [Act.put, List.setIfInBounds_toArray, List.set_cons_zero, List.set_cons_succ, i64_w, i32_w]
           rfl
         refine pure_ (i := 16) (N := some 111) (v := ?_) (a' := ?_) #[true, true, false, true, false, false, false, true, true, false, true, false, false, false, false, false, true, false, false, false, false, false, false] rfl rfl (by kernel_rfl) (fun _ _ _ h => h) (Or.inl ⟨by rfl, ?_⟩) ?_ ?_
         rotate_left
         · intro w'
           go_simp
           with_reducible rfl
         rotate_left
         · simp only [Act.put, List.setIfInBounds_toArray, List.set_cons_zero, List.set_cons_succ, i64_w, i32_w]
           rfl
         refine pure_ (i := 17) (N := some 112) (v := ?_) (a' := ?_) #[true, true, false, true, false, false, false, true, true, false, true, false, false, false, false, false, true, true, false, false, false, false, false] rfl rfl (by kernel_rfl) (fun _ _ _ h => h) (Or.inl ⟨by rfl, ?_⟩) ?_ ?_
         rotate_left
         · intro w'
           go_simp
           with_reducible rfl
         rotate_left
         · simp only [Act.put, List.setIfInBounds_toArray, List.set_cons_zero, List.set_cons_succ, i64_w, i32_w]
           rfl
         refine pure_ (i := 18) (N := some 113) (v := ?_) (a' := ?_) #[true, true, false, true, false, false, false, true, true, false, true, false, false, false, false, false, true, true, true, false, false, false, false] rfl rfl (by kernel_rfl) (fun _ _ _ h => h) (Or.inl ⟨by rfl, ?_⟩) ?_ ?_
         rotate_left
         · intro w'
           go_simp
           with_reducible rfl
         rotate_left
         · simp only [Act.put, List.setIfInBounds_toArray, List.set_cons_zero, List.set_cons_succ, i64_w, i32_w]
           rfl
         refine take_ (i := 2) (N := some 97) (v := ?_) (a' := ?_) #[true, true, true, true, false, false, false, true, true, false, true, false, false, false, false, false, true, true, true, false, false, false, false] rfl rfl (by kernel_rfl) (fun _ _ _ h => h) (Or.inl ⟨by rfl, ?_⟩) hHeld ?_ ?_
         rotate_left
         · rintro w' ⟨s0, s1, s2⟩
           go_simp
           with_reducible rfl
         rotate_left
         · simp only [Act.put, List.setIfInBounds_toArray, List.set_cons_zero, List.set_cons_succ, i64_w, i32_w]
           rfl
         refine pure_ (i := 4) (N := some 99) (v := ?_) (a' := ?_) #[true, true, true, true, true, false, false, true, true, false, true, false, false, false, false, false, true, true, true, false, false, false, false] rfl rfl (by kernel_rfl) (fun _ _ _ h => h) (Or.inl ⟨by rfl, ?_⟩) ?_ ?_
         rotate_left
         · intro w'
           go_simp
           with_reducible rfl
         rotate_left
         · simp only [Act.put, List.setIfInBounds_toArray, List.set_cons_zero, List.set_cons_succ, i64_w, i32_w]
           rfl
         refine pure_ (i := 5) (N := some 100) (v := ?_) (a' := ?_) #[true, true, true, true, true, true, false, true, true, false, true, false, false, false, false, false, true, true, true, false, false, false, false] rfl rfl (by kernel_rfl) (fun _ _ _ h => h) (Or.inl ⟨by rfl, ?_⟩) ?_ ?_
         rotate_left
         · intro w'
           go_simp
           with_reducible rfl
         rotate_left
         · simp only [Act.put, List.setIfInBounds_toArray, List.set_cons_zero, List.set_cons_succ, i64_w, i32_w]
           rfl
         refine take_ (i := 6) (N := some 101) (v := ?_) (a' := ?_) #[true, true, true, true, true, true, true, true, true, false, true, false, false, false, false, false, true, true, true, false, false, false, false] rfl rfl (by kernel_rfl) (fun _ _ _ h => h) (Or.inl ⟨by rfl, ?_⟩) hHeld ?_ ?_
         rotate_left
         · rintro w' ⟨s0, s1, s2⟩
           go_simp
           with_reducible rfl
         rotate_left
         · simp only [Act.put, List.setIfInBounds_toArray, List.set_cons_zero, List.set_cons_succ, i64_w, i32_w]
           rfl
         refine take_ (i := 9) (N := some 104) (v := ?_) (a' := ?_) #[true, true, true, true, true, true, true, true, true, true, true, false, false, false, false, false, true, true, true, false, false, false, false] rfl rfl (by kernel_rfl) (fun _ _ _ h => h) (Or.inl ⟨by rfl, ?_⟩) hHeld ?_ ?_
         rotate_left
         · rintro w' ⟨s0, s1, s2⟩
           go_simp
           with_reducible rfl
         rotate_left
         · simp only [Act.put, List.setIfInBounds_toArray, List.set_cons_zero, List.set_cons_succ, i64_w, i32_w]
           rfl
         refine pure_ (i := 11) (N := some 106) (v := ?_) (a' := ?_) #[true, true, true, true, true, true, true, true, true, true, true, true, false, false, false, false, true, true, true, false, false, false, false] rfl rfl (by kernel_rfl) (fun _ _ _ h => h) (Or.inl ⟨by rfl, ?_⟩) ?_ ?_
         rotate_left
         · intro w'
           go_simp
           with_reducible rfl
         rotate_left
         · simp only [Act.put, List.setIfInBounds_toArray, List.set_cons_zero, List.set_cons_succ, i64_w, i32_w]
           rfl
         refine pure_ (i := 12) (N := some 107) (v := ?_) (a' := ?_) #[true, true, true, true, true, true, true, true, true, true, true, true, true, false, false, false, true, true, true, false, false, false, false] rfl rfl (by kernel_rfl) (fun _ _ _ h => h) (Or.inl ⟨by rfl, ?_⟩) ?_ ?_
         rotate_left
         · intro w'
           go_simp
           with_reducible rfl
         rotate_left
         · simp only [Act.put, List.setIfInBounds_toArray, List.set_cons_zero, List.set_cons_succ, i64_w, i32_w]
           rfl
         refine take_ (i := 13) (N := some 108) (v := ?_) (a' := ?_) #[true, true, true, true, true, true, true, true, true, true, true, true, true, true, false, false, true, true, true, false, false, false, false] rfl rfl (by kernel_rfl) (fun _ _ _ h => h) (Or.inl ⟨by rfl, ?_⟩) hHeld ?_ ?_
         rotate_left
         · rintro w' ⟨s0, s1, s2⟩
           go_simp
           with_reducible rfl
         rotate_left
         · simp only [Act.put, List.setIfInBounds_toArray, List.set_cons_zero, List.set_cons_succ, i64_w, i32_w]
           rfl
         refine pure_ (i := 14) (N := some 109) (v := ?_) (a' := ?_) #[true, true, true, true, true, true, true, true, true, true, true, true, true, true, true, false, true, true, true, false, false, false, false] rfl rfl (by kernel_rfl) (fun _ _ _ h => h) (Or.inl ⟨by rfl, ?_⟩) ?_ ?_
         rotate_left
         · intro w'
           go_simp
           with_reducible rfl
         rotate_left
         · simp only [Act.put, List.setIfInBounds_toArray, List.set_cons_zero, List.set_cons_succ, i64_w, i32_w]
           rfl
         refine take_ (i := 15) (N := some 110) (v := ?_) (a' := ?_) #[true, true, true, true, true, true, true, true, true, true, true, true, true, true, true, true, true, true, true, false, false, false, false] rfl rfl (by kernel_rfl) (fun _ _ _ h => h) (Or.inl ⟨by rfl, ?_⟩) hHeld ?_ ?_
         rotate_left
         · rintro w' ⟨s0, s1, s2⟩
           go_simp
           with_reducible rfl
         rotate_left
         · simp only [Act.put, List.setIfInBounds_toArray, List.set_cons_zero, List.set_cons_succ, i64_w, i32_w]
           rfl
         refine one_ (i := 19) (N := some 114) #[true, true, true, true, true, true, true, true, true, true, true, true, true, true, true, true, true, true, true, true, false, false, false] rfl rfl (by kernel_rfl) (by decide) (fun K hK => ?_)
         refine value_ (w1 := ?_) (v := ?_) (by rfl) rfl ?_ ?_
         rotate_left 2
         · go_simp
           constructor
           · rfl
           · rfl
         refine hK.out _ _ ⟨(World.cell?_alloc_lt _ _ _ (World.block_lt_of_cell? _ _ hHeld.1)).trans hHeld.1, (World.cell?_alloc_lt _ _ _ (World.block_lt_of_cell? _ _ hHeld.2.1)).trans hHeld.2.1, (World.cell?_alloc_lt _ _ _ (World.block_lt_of_cell? _ _ hHeld.2.2)).trans hHeld.2.2⟩ (fun hHeld => ?_)
         clear hK K
         refine norm_ (a' := ?_) ?_ ?_
         rotate_left
         · show Act.put _ (some 114) _ = _
           simp only [Act.put, List.setIfInBounds_toArray, List.set_cons_zero, List.set_cons_succ, i64_w, i32_w]
           rfl
         refine one_ (i := 20) (N := some 115) #[true, true, true, true, true, true, true, true, true, true, true, true, true, true, true, true, true, true, true, true, true, false, false] rfl rfl (by kernel_rfl) (by decide) (fun K hK => ?_)
         refine step_append_cells (bo + 1) (by rfl) (.tmp 110) (.tmp 114) 36 3 (.int .i64 0) 1 8 rfl Try.underlying36 info_int rfl (by decide) (by omega) (.slice Av row.length cv) row.length (encs (Value.int .i64) row) [.int .i64 (q1 : Int)] rfl rfl rfl ?aN HO.out (Below.refl _ _) HGD.out.base ?aL ?_
         (case aN => intro u hu; simp at hu; subst hu; rfl)
         (case aL => have := HRL.out; omega)
         intro v1 w9 hown hb hg hat
         obtain ⟨A', c', rfl⟩ := own_sl hown
         have g1 := Rows2.app HGD.out (k := v) (by rw [rowsTo_length]; exact HVB.out) (v' := .slice A' (row.length + 1) c') (x := (q1 : Int)) (by rw [← HRW.out]; exact hown) (by rw [HV.out]; exact hg) (by rw [HV.out]; exact hat)
         rw [rowsTo_succ HVB.out HUV1.out] at g1
         have HG9 := Aside0.mk g1
         have HBa := Aside0.mk (HBD.out.grown hg HBD.out.size (fun k hk => by have := (HO.out.lt k hk).1; have := HBO.out; omega))
         have HB9 := Aside0.mk (HBa.out.setCell (p := ⟨bo, v, none⟩) (by have := HBO.out; simp; omega) (.slice A' (row.length + 1) c'))
         have ho1 : w9.heap[bo]? = some (.cells vs2.toArray 36 (0, 0)) := (hg.block bo (lt_of HGD.out.out) (fun e => by have := (HO.out.lt bo e.symm).1; omega)).trans HGD.out.out
         have fz := heap_free ho1 v
         have cz : w9.cell? ⟨bo, v, none⟩ = some (.slice Av row.length cv) := by rw [← HV.out]; exact heap_cell ho1 (by have := HGD.out.len; rw [rowsTo_length] at this; simp [va_of (show v < vs2.length by have := HVB.out; omega)])
         refine hK.out _ _ ⟨(HBa.out.cell (cell_lt G1.out)).trans G1.out, (HBa.out.cell (cell_lt HZ.out)).trans HZ.out, cz⟩ (fun hHeld => ?_)
         clear hK K
         refine norm_ (a' := ?_) ?_ ?_
         rotate_left
         · show Act.put _ (some 115) _ = _
           simp only [Act.put, List.setIfInBounds_toArray, List.set_cons_zero, List.set_cons_succ, i64_w, i32_w]
           rfl
         refine pure_ (i := 21) (N := some 116) (v := ?_) (a' := ?_) #[true, true, true, true, true, true, true, true, true, true, true, true, true, true, true, true, true, true, true, true, true, true, false] rfl rfl (by kernel_rfl) (fun _ _ _ h => h) (Or.inl ⟨by rfl, ?_⟩) ?_ ?_
         rotate_left
         · intro w'
           go_simp
           with_reducible rfl
         rotate_left
         · simp only [Act.put, List.setIfInBounds_toArray, List.set_cons_zero, List.set_cons_succ, i64_w, i32_w]
           rfl
         refine last_ (i := 22) (N := none) #[true, true, true, true, true, true, true, true, true, true, true, true, true, true, true, true, true, true, true, true, true, true, true] rfl rfl (by kernel_rfl) (by decide) (fun K hK => ?_)
         refine skip_ (w1 := ?_) (by rfl) rfl ?_ ?_
         rotate_left
         · go_simp
           rfl
         refine hK.out _ _ ?_
         clear hK K
         refine done_ (by kernel_rfl) ?_
         clear HO HGD HBD HS0 HS1 HS2 hown hg hat hb g1 ho1 fz cz HBa HZ
         clear r0 r1
         go_wp2_with fail
         go_roundw
         case rel => exact ⟨i + 1, by go_num, by omega, ⟨_, by rw [HQ0.out.2.2.2]; exact HG9.out⟩, HB9⟩
         case measure => simp [intOf]; omega
       · obtain rfl : i = es.length := by omega
         clear hi hlt
         have HRD : Aside0 (∃ vs gs, Rows2 wr (bo + 1) bo vs gs ∧ Round fr n (2 * es.length) gs) := ⟨by
           obtain ⟨vs, hG⟩ := HG.out
           exact ⟨vs, _, hG, rowsTo_length _ _ _, fun v hv => by rw [gl_rowsTo hv]⟩⟩
         clear HG
         go_wp2_with fail
         clear y1
         go_loopw [12] (fun y ws => ∃ (i : Nat), y = .int .i64 (i : Int) ∧ i ≤ rs.length ∧ Aside0 (∃ vs gs, Rows2 ws (bo + 1) bo vs gs ∧ Round fr n (2 * es.length) gs) ∧ Aside0 (Below w7.heap.size w7 ws)) (fun y _ => rs.length - (intOf y).toNat)
         case atStart => exact ⟨0, rfl, by omega, HRD, HB⟩
         case round =>
           clear HRD HB
           obtain ⟨i, rfl, hi, HRD, HB⟩ := hrel
           by_cases hlt : i < rs.length ∧ 0 < n
           · obtain ⟨hlt, hn0⟩ := hlt
             obtain ⟨vs, gs, hG, hgl, hgp⟩ := HRD.out
             have HG := Aside0.mk hG
             have HGL := Aside0.mk hgl
             have HGP := Aside0.mk hgp
             obtain ⟨k, hk⟩ : ∃ k, k = i % n := ⟨_, rfl⟩
             have hkn : k < n := by rw [hk]; exact Nat.mod_lt _ hn0
             have r1 : Int.tmod (i : Int) (n : Int) = (k : Int) := by rw [hk]; rfl
             have r2 : ((n : Int) == 0) = false := beq_eq_false_iff_ne.2 (by omega)
             have r3 : ¬ (n : Int) = 0 := by omega
             obtain ⟨row, hrow⟩ : ∃ row, row = gl gs k := ⟨_, rfl⟩
             have ho := hG.own k (by rw [hgl]; exact hkn)
             rw [← hrow] at ho
             obtain ⟨Av, cv, hV⟩ := own_sl ho
             have hcl := hG.cell (j := k) (by rw [hgl]; exact hkn)
             rw [hV] at hcl
             have hrl : row.length ≤ 9000 := by
               rw [hrow, (hgp k hkn).length_eq]
               have h1 := leaveTo_length fr (2 * es.length) k
               have h2 := HEB.out
               omega
             obtain ⟨ad, eA, y0⟩ := Kd.at_int (Kd.C_below (Kd.C_below HR2.out HB7.out) HB.out) (i : Int) (by omega) (by omega)
             subst eA
             rw [Int.toNat_natCast, gi_rd] at y0
             obtain ⟨x, hx⟩ : ∃ x, x = gi rs i := ⟨_, rfl⟩
             rw [← hx] at y0
             obtain ⟨L1, hL1⟩ : ∃ L1, L1 = row.length + 1 := ⟨_, rfl⟩
             have r4 : IntKind.i64.wrap ((row.length : Int) + 1) = (L1 : Int) := by rw [IntWalk.i64_in _ (by omega)]; omega
             have r5 : ((L1 : Int) == 0) = false := beq_eq_false_iff_ne.2 (by omega)
             have r6 : ¬ (L1 : Int) = 0 := by omega
             obtain ⟨j, hj⟩ : ∃ j, j = Int.tmod x (L1 : Int) := ⟨_, rfl⟩
             have r7 : Int.tmod x (L1 : Int) = j := hj.symm
             have HKN := Aside0.mk hkn
             have HV := Aside0.mk hV
             have HRW := Aside0.mk hrow
             clear hG hgl hgp hk ho hV hrow hx hL1 hj HRD
             by_cases hjj : 0 < j ∧ j < (row.length : Int)
             · obtain ⟨h1, h2⟩ := hjj
               obtain ⟨q, rfl⟩ := Int.eq_ofNat_of_zero_le (show 0 ≤ j by omega)
               have s1 : decide ((q : Int) > 0) = true := decide_eq_true h1
               have s1' : decide ((0 : Int) < (q : Int)) = true := decide_eq_true h1
               have s1n : decide (0 < q) = true := decide_eq_true (by omega)
               have s2 : decide ((q : Int) < (row.length : Int)) = true := decide_eq_true h2
               have s2n : decide (q < row.length) = true := decide_eq_true (by omega)
               have hqr : q < row.length := by omega
               have h0r : 0 < row.length := by omega
               obtain ⟨g, c3, e3, c0, cq, f0, fq, fw, cs, hBg, hgbo, hG2⟩ := HG.out.swap (k := k) (j := q) (by rw [HGL.out]; exact HKN.out) (by omega) (by rw [← HRW.out]; omega)
               rw [HV.out, ← HRW.out] at e3
               injection e3 with e4 _ e5
               subst e4 e5
               rw [← HRW.out] at c0 cq fq cs hG2
               obtain ⟨x0, hx0⟩ : ∃ x0, x0 = gi row 0 := ⟨_, rfl⟩
               obtain ⟨xq, hxq⟩ : ∃ xq, xq = gi row q := ⟨_, rfl⟩
               rw [← hx0] at c0 hG2
               rw [← hxq] at cq fq cs hG2
               have HC0 : Aside0 (wr.drew.cell? ⟨g, 0, none⟩ = some (.int .i64 x0)) := ⟨c0⟩
               have HCQ : Aside0 (wr.drew.cell? ⟨g, q, none⟩ = some (.int .i64 xq)) := ⟨cq⟩
               have FZ0 : Aside0 (wr.drew.frozen? ⟨g, 0, none⟩ = false) := ⟨f0⟩
               have FZQ : Aside0 ((wr.drew.setCell ⟨g, 0, none⟩ (.int .i64 xq)).frozen? ⟨g, q, none⟩ = false) := ⟨fq⟩
               have HG2 : Aside0 (Rows2 ((wr.drew.setCell ⟨g, 0, none⟩ (.int .i64 xq)).setCell ⟨g, q, none⟩ (.int .i64 x0)) (bo + 1) bo vs (gs.set k ((row.set 0 xq).set q x0))) := ⟨⟨hG2.len, hG2.out, hG2.own, hG2.col, hG2.base⟩⟩
               have HB2 : Aside0 (Below w7.heap.size w7 ((wr.drew.setCell ⟨g, 0, none⟩ (.int .i64 xq)).setCell ⟨g, q, none⟩ (.int .i64 x0))) := ⟨(HB.out.drew.setCell (p := ⟨g, 0, none⟩) (by have := HBO.out; simp; omega) _).setCell (p := ⟨g, q, none⟩) (by have := HBO.out; simp; omega) _⟩
               have HRD2 : Aside0 (Round fr n (2 * es.length) (gs.set k ((row.set 0 xq).set q x0))) := ⟨by
                 refine ⟨by rw [List.length_set]; exact HGL.out, fun v hv => ?_⟩
                 rw [gl_set]
                 by_cases hkv : k = v ∧ v < gs.length
                 · rw [if_pos hkv, hx0, hxq]
                   refine (swap_perm row q (by omega) (by omega)).trans ?_
                   rw [HRW.out, hkv.1]
                   exact HGP.out v hv
                 · rw [if_neg hkv]
                   exact HGP.out v hv⟩
               have FCS := Aside0.mk cs
               have FFW := Aside0.mk fw
               clear c0 cq f0 fq fw cs hBg hgbo hG2 hx0 hxq HG HB h1 h2
               go_upto_region 28 with (fail)
               clear hcl y0
               have f0 := FZ0.out
               have fq := FZQ.out
               have cs := FCS.out
               have fw := FFW.out
               refine start_ (n := 14) (S := fun w' => w'.cell? ⟨g, q, none⟩ = some (.int .i64 xq) ∧ w'.cell? ⟨g, 0, none⟩ = some (.int .i64 x0)) (ds := [11, 13]) #[false, false, false, false, false, false, false, false, false, false, false, false, false, false] (by kernel_rfl) rfl rfl ⟨HCQ.out, HC0.out⟩ (fun hHeld => ?_)
               refine pure_ (i := 0) (N := some 150) (v := ?_) (a' := ?_) #[true, false, false, false, false, false, false, false, false, false, false, false, false, false] rfl rfl (by kernel_rfl) (fun _ _ _ h => h) (Or.inl ⟨by rfl, ?_⟩) ?_ ?_
               rotate_left
               · intro w'
                 go_simp
                 with_reducible rfl
               rotate_left
               · simp only [Act.put, List.setIfInBounds_toArray, List.set_cons_zero, List.set_cons_succ, i64_w, i32_w]
                 rfl
               refine pure_ (i := 1) (N := some 151) (v := ?_) (a' := ?_) #[true, true, false, false, false, false, false, false, false, false, false, false, false, false] rfl rfl (by kernel_rfl) (fun _ _ _ h => h) (Or.inl ⟨by rfl, ?_⟩) ?_ ?_
               rotate_left
               · intro w'
                 go_simp
                 with_reducible rfl
               rotate_left
               · simp only [Act.put, List.setIfInBounds_toArray, List.set_cons_zero, List.set_cons_succ, i64_w, i32_w]
                 rfl
               refine pure_ (i := 2) (N := some 152) (v := ?_) (a' := ?_) #[true, true, true, false, false, false, false, false, false, false, false, false, false, false] rfl rfl (by kernel_rfl) (fun _ _ _ h => h) (Or.inl ⟨by rfl, ?_⟩) ?_ ?_
               rotate_left
               · intro w'
                 go_simp
                 with_reducible rfl
               rotate_left
               · simp only [Act.put, List.setIfInBounds_toArray, List.set_cons_zero, List.set_cons_succ, i64_w, i32_w]
                 rfl
               refine pure_ (i := 3) (N := some 153) (v := ?_) (a' := ?_) #[true, true, true, true, false, false, false, false, false, false, false, false, false, false] rfl rfl (by kernel_rfl) (fun _ _ _ h => h) (Or.inl ⟨by rfl, ?_⟩) ?_ ?_
               rotate_left
               · intro w'
                 go_simp
                 with_reducible rfl
               rotate_left
               · simp only [Act.put, List.setIfInBounds_toArray, List.set_cons_zero, List.set_cons_succ, i64_w, i32_w]
                 rfl
               refine pure_ (i := 4) (N := some 154) (v := ?_) (a' := ?_) #[true, true, true, true, true, false, false, false, false, false, false, false, false, false] rfl rfl (by kernel_rfl) (fun _ _ _ h => h) (Or.inl ⟨by rfl, ?_⟩) ?_ ?_
               rotate_left
               · intro w'
                 go_simp
                 with_reducible rfl
               rotate_left
               · simp only [Act.put, List.setIfInBounds_toArray, List.set_cons_zero, List.set_cons_succ, i64_w, i32_w]
                 rfl
               refine pure_ (i := 5) (N := some 155) (v := ?_) (a' := ?_) #[true, true, true, true, true, true, false, false, false, false, false, false, false, false] rfl rfl (by kernel_rfl) (fun _ _ _ h => h) (Or.inl ⟨by rfl, ?_⟩) ?_ ?_
               rotate_left
               · intro w'
                 go_simp
                 with_reducible rfl
               rotate_left
               · simp only [Act.put, List.setIfInBounds_toArray, List.set_cons_zero, List.set_cons_succ, i64_w, i32_w]
                 rfl
               refine pure_ (i := 7) (N := some 157) (v := ?_) (a' := ?_) #[true, true, true, true, true, true, false, true, false, false, false, false, false, false] rfl rfl (by kernel_rfl) (fun _ _ _ h => h) (Or.inl ⟨by rfl, ?_⟩) ?_ ?_
               rotate_left
               · intro w'
                 go_simp
                 with_reducible rfl
               rotate_left
               · simp only [Act.put, List.setIfInBounds_toArray, List.set_cons_zero, List.set_cons_succ, i64_w, i32_w]
                 rfl
               refine pure_ (i := 8) (N := some 158) (v := ?_) (a' := ?_) #[true, true, true, true, true, true, false, true, true, false, false, false, false, false] rfl rfl (by kernel_rfl) (fun _ _ _ h => h) (Or.inl ⟨by rfl, ?_⟩) ?_ ?_
               rotate_left
               · intro w'
                 go_simp
                 with_reducible rfl
               rotate_left
               · simp only [Act.put, List.setIfInBounds_toArray, List.set_cons_zero, List.set_cons_succ, i64_w, i32_w]
                 rfl
               refine take_ (i := 6) (N := some 156) (v := ?_) (a' := ?_) #[true, true, true, true, true, true, true, true, true, false, false, false, false, false] rfl rfl (by kernel_rfl) (fun _ _ _ h => h) (Or.inl ⟨by rfl, ?_⟩) hHeld ?_ ?_
               rotate_left
               · rintro w' ⟨s0, s1⟩
                 go_simp
                 with_reducible rfl
               rotate_left
               · simp only [Act.put, List.setIfInBounds_toArray, List.set_cons_zero, List.set_cons_succ, i64_w, i32_w]
                 rfl
               refine take_ (i := 9) (N := some 159) (v := ?_) (a' := ?_) #[true, true, true, true, true, true, true, true, true, true, false, false, false, false] rfl rfl (by kernel_rfl) (fun _ _ _ h => h) (Or.inl ⟨by rfl, ?_⟩) hHeld ?_ ?_
               rotate_left
               · rintro w' ⟨s0, s1⟩
                 go_simp
                 with_reducible rfl
               rotate_left
               · simp only [Act.put, List.setIfInBounds_toArray, List.set_cons_zero, List.set_cons_succ, i64_w, i32_w]
                 rfl
               refine pure_ (i := 10) (N := some 160) (v := ?_) (a' := ?_) #[true, true, true, true, true, true, true, true, true, true, true, false, false, false] rfl rfl (by kernel_rfl) (fun _ _ _ h => h) (Or.inl ⟨by rfl, ?_⟩) ?_ ?_
               rotate_left
               · intro w'
                 go_simp
                 with_reducible rfl
               rotate_left
               · simp only [Act.put, List.setIfInBounds_toArray, List.set_cons_zero, List.set_cons_succ, i64_w, i32_w]
                 rfl
               refine last_ (i := 11) (N := none) #[true, true, true, true, true, true, true, true, true, true, true, true, false, false] rfl rfl (by kernel_rfl) (by decide) (fun K hK => ?_)
               refine skip_ (w1 := ?_) (by rfl) rfl ?_ ?_
               rotate_left
               · go_simp
                 rfl
               refine hK.out _ _ ?_
               clear hK K
               refine pure_ (i := 12) (N := some 161) (v := ?_) (a' := ?_) #[true, true, true, true, true, true, true, true, true, true, true, true, true, false] rfl rfl (by kernel_rfl) (fun _ _ _ h => h) (Or.inl ⟨by rfl, ?_⟩) ?_ ?_
               rotate_left
               · intro w'
                 go_simp
                 with_reducible rfl
               rotate_left
               · simp only [Act.put, List.setIfInBounds_toArray, List.set_cons_zero, List.set_cons_succ, i64_w, i32_w]
                 rfl
               refine last_ (i := 13) (N := none) #[true, true, true, true, true, true, true, true, true, true, true, true, true, true] rfl rfl (by kernel_rfl) (by decide) (fun K hK => ?_)
               refine skip_ (w1 := ?_) (by rfl) rfl ?_ ?_
               rotate_left
               · go_simp
                 rfl
               refine hK.out _ _ ?_
               clear hK K
               refine done_ (by kernel_rfl) ?_
               clear f0 fq cs fw FCS FFW HC0 HCQ FZ0 FZQ s1 s1' s1n s2 s2n
               go_wp2_with fail
               go_roundw
               case rel => exact ⟨i + 1, by go_num, by omega, ⟨_, _, HG2.out, HRD2.out⟩, HB2⟩
               case measure => simp [intOf]; omega
             · have HRD2 : Aside0 (∃ vs gs, Rows2 wr (bo + 1) bo vs gs ∧ Round fr n (2 * es.length) gs) := ⟨vs, gs, HG.out, HGL.out, HGP.out⟩
               by_cases h1 : 0 < j
               · have s1 : decide (j > 0) = true := decide_eq_true h1
                 have s1' : decide (0 < j) = true := decide_eq_true h1
                 have s2 : decide (j < (row.length : Int)) = false := decide_eq_false (by omega)
                 clear h1 hjj
                 go_wp2_with fail
                 clear s1 s1' s2 hcl y0
                 go_roundw
                 case rel => exact ⟨i + 1, by go_num, by omega, HRD2, HB⟩
                 case measure => simp [intOf]; omega
               · have s1 : decide (j > 0) = false := decide_eq_false h1
                 have s1' : decide (0 < j) = false := decide_eq_false h1
                 clear h1 hjj
                 go_wp2_with fail
                 clear s1 s1' hcl y0
                 go_roundw
                 case rel => exact ⟨i + 1, by go_num, by omega, HRD2, HB⟩
                 case measure => simp [intOf]; omega
           · have hex : Aside0 (decide ((i : Int) < (rs.length : Int)) = false ∨ (decide ((i : Int) < (rs.length : Int)) = true ∧ decide ((n : Int) > 0) = false)) := ⟨by
               by_cases h : i < rs.length
               · exact .inr ⟨decide_eq_true (by omega), decide_eq_false (by omega)⟩
               · exact .inl (decide_eq_false (by omega))⟩
             obtain ⟨vs, gs, hG, hR⟩ := HRD.out
             have HROT := Aside0.mk (hG.tells (base := w7.heap.size) (by have := HBO.out; omega) (by have := HBO.out; omega) (by rw [hR.1]; omega))
             have HGN := Aside0.mk hR.1
             obtain ⟨k, o, p, ii, fs, a1, a2, a3, a4, a5, a6, a7, a8, a9⟩ := HFF.out (by omega) gs (by have h := hR; rw [HFRQ.out, HES.out, HLQ.out] at h; exact h)
             rw [← HLQ.out, ← HES.out] at a1 a3 a4 a5 a6
             have A1 := Aside0.mk a1
             have A2 := Aside0.mk a2
             have A3 := Aside0.mk a3
             have A4 := Aside0.mk a4
             have A5 := Aside0.mk a5
             have A6 := Aside0.mk a6
             have A7 := Aside0.mk a7
             have A8 : Aside0 (IntKind.i64.wrap (p - ii) = p - ii) := ⟨IntWalk.i64_in _ (by omega)⟩
             have HXE : Aside0 (wr.heap[bg]? = some (.cells #[.int .i64 (n : Int), .slice Ag es.length cg] 24 (0, 0))) := ⟨(HB.out.block _ (lt_of HX7.out)).trans HX7.out⟩
             have HGE : Aside0 (Kd.C k56 wr Ag (eds es).length (eds es)) := ⟨by rw [eds_length]; exact C_eds (Kd.R_reads' (Kd.R_below HR7.out HB.out)).2.2⟩
             have HGC : Aside0 ((eds es).length ≤ cg) := ⟨by rw [eds_length]; exact (Kd.R_reads' HR7.out).2.1⟩
             have HBE : Aside0 (Below w.heap.size w wr) := ⟨HB7.out.trans (HB.out.mono HB7.out.size)⟩
             obtain ⟨_, hrl, hrot⟩ := Kd.S_reads' HROT.out
             have HRC := Aside0.mk hrot
             rw [HGN.out] at hrl
             have HRL := Aside0.mk hrl
             clear hG hR a1 a2 a3 a4 a5 a6 a7 a8 a9 hrot hrl HRD HB HROT
             clear hex
             by_cases hir : i < rs.length
             · have hn0 : ¬ 0 < n := fun h => hlt ⟨hir, h⟩
               have s1 : decide (i < rs.length) = true := decide_eq_true hir
               have s2 : decide (0 < n) = false := decide_eq_false hn0
               have s3 : decide ((n : Int) > 0) = false := decide_eq_false (by omega)
               have s3' : decide ((0 : Int) < (n : Int)) = false := decide_eq_false (by omega)
               clear hlt
               have x0 : wr.cell? ⟨bg, 0, none⟩ = some (.int .i64 (n : Int)) := heap_cell HXE.out rfl
               have x1 : wr.cell? ⟨bg, 1, none⟩ = some (.slice Ag es.length cg) := heap_cell HXE.out rfl
               go_wp2_with fail
               clear x0 x1
               refine (copy_calls k n Ag cg es wr HGE.out HGC.out A1.out).mono ?_
               rintro e' w10 ⟨vg, rfl, hR, hb⟩
               replace HBE := Aside0.mk (HBE.out.trans (hb.mono HBE.out.size))
               replace HXE := Aside0.mk ((hb.block _ (lt_of HXE.out)).trans HXE.out)
               replace HGE := Aside0.mk (Kd.C_below HGE.out hb)
               replace HRC := Aside0.mk (Kd.C_below HRC.out hb)
               (try replace HCE := Aside0.mk (Kd.C_below HCE.out hb))
               obtain ⟨Ac, cc, rfl, hcc, hR⟩ := Kd.R_reads hR
               have HCE := Aside0.mk hR
               have HCL := Aside0.mk hcc
               clear hb hR hcc
               go_wp2_with fail
               refine (comps_Of.calls k (n : Int) Ac cc (eds es) o p 0 w10 HCE.out HCL.out A3.out).mono ?_
               rintro e' w11 ⟨vo, rfl, _, hb⟩
               replace HBE := Aside0.mk (HBE.out.trans (hb.mono HBE.out.size))
               replace HXE := Aside0.mk ((hb.block _ (lt_of HXE.out)).trans HXE.out)
               replace HGE := Aside0.mk (Kd.C_below HGE.out hb)
               replace HRC := Aside0.mk (Kd.C_below HRC.out hb)
               (try replace HCE := Aside0.mk (Kd.C_below HCE.out hb))
               clear hb HCE HCL
               have x0 : w11.cell? ⟨bg, 0, none⟩ = some (.int .i64 (n : Int)) := heap_cell HXE.out rfl
               have x1 : w11.cell? ⟨bg, 1, none⟩ = some (.slice Ag es.length cg) := heap_cell HXE.out rfl
               go_wp2_with fail
               clear x0 x1
               refine (copy_calls k n Ag cg es w11 HGE.out HGC.out A1.out).mono ?_
               rintro e' w12 ⟨vg, rfl, hR, hb⟩
               replace HBE := Aside0.mk (HBE.out.trans (hb.mono HBE.out.size))
               replace HXE := Aside0.mk ((hb.block _ (lt_of HXE.out)).trans HXE.out)
               replace HGE := Aside0.mk (Kd.C_below HGE.out hb)
               replace HRC := Aside0.mk (Kd.C_below HRC.out hb)
               (try replace HCE := Aside0.mk (Kd.C_below HCE.out hb))
               obtain ⟨Ac, cc, rfl, hcc, hR⟩ := Kd.R_reads hR
               have HCE := Aside0.mk hR
               have HCL := Aside0.mk hcc
               clear hb hR hcc
               go_wp2_with fail
               refine (comps_Isolated.calls k (n : Int) Ac cc (eds es) ii 0 w12 HCE.out HCL.out A4.out).mono ?_
               rintro e' w13 ⟨rfl, hb⟩
               replace HBE := Aside0.mk (HBE.out.trans (hb.mono HBE.out.size))
               replace HXE := Aside0.mk ((hb.block _ (lt_of HXE.out)).trans HXE.out)
               replace HGE := Aside0.mk (Kd.C_below HGE.out hb)
               replace HRC := Aside0.mk (Kd.C_below HRC.out hb)
               (try replace HCE := Aside0.mk (Kd.C_below HCE.out hb))
               clear hb HCE HCL
               have x0 : w13.cell? ⟨bg, 0, none⟩ = some (.int .i64 (n : Int)) := heap_cell HXE.out rfl
               have x1 : w13.cell? ⟨bg, 1, none⟩ = some (.slice Ag es.length cg) := heap_cell HXE.out rfl
               go_wp2_with fail
               clear x0 x1
               refine (copy_calls k n Ag cg es w13 HGE.out HGC.out A1.out).mono ?_
               rintro e' w14 ⟨vg, rfl, hR, hb⟩
               replace HBE := Aside0.mk (HBE.out.trans (hb.mono HBE.out.size))
               replace HXE := Aside0.mk ((hb.block _ (lt_of HXE.out)).trans HXE.out)
               replace HGE := Aside0.mk (Kd.C_below HGE.out hb)
               replace HRC := Aside0.mk (Kd.C_below HRC.out hb)
               (try replace HCE := Aside0.mk (Kd.C_below HCE.out hb))
               obtain ⟨Ac, cc, rfl, hcc, hR⟩ := Kd.R_reads hR
               have HCE := Aside0.mk hR
               have HCL := Aside0.mk hcc
               clear hb hR hcc
               go_wp2_with fail
               refine (rotcopy_calls k bo n gs w14 HGN.out HRC.out HRL.out A2.out).mono ?_
               rintro e' w15 ⟨vr, rfl, hS, hb⟩
               replace HBE := Aside0.mk (HBE.out.trans (hb.mono HBE.out.size))
               replace HXE := Aside0.mk ((hb.block _ (lt_of HXE.out)).trans HXE.out)
               replace HGE := Aside0.mk (Kd.C_below HGE.out hb)
               replace HRC := Aside0.mk (Kd.C_below HRC.out hb)
               (try replace HCE := Aside0.mk (Kd.C_below HCE.out hb))
               obtain ⟨Ar, cr, rfl, hcr, hS⟩ := Kd.S_reads hS
               have HRE := Aside0.mk hS
               have HRF := Aside0.mk hcr
               clear hb hS hcr
               go_wp2_with fail
               refine (faces_Of.calls k (n : Int) Ac cc (eds es) Ar cr gs fs 0 w15 HCE.out HCL.out HRE.out HRF.out A5.out).mono ?_
               rintro e' w16 ⟨vf, rfl, hS, hb⟩
               replace HBE := Aside0.mk (HBE.out.trans (hb.mono HBE.out.size))
               replace HXE := Aside0.mk ((hb.block _ (lt_of HXE.out)).trans HXE.out)
               replace HGE := Aside0.mk (Kd.C_below HGE.out hb)
               replace HRC := Aside0.mk (Kd.C_below HRC.out hb)
               (try replace HCE := Aside0.mk (Kd.C_below HCE.out hb))
               obtain ⟨Af, cf, rfl, _, _⟩ := Kd.S_reads hS
               have t0 : ((0 : Int) == 0) = true := rfl
               have t1 : ((fs.length : Int) == p - ii) = true := beq_iff_eq.2 A7.out
               have r8 := A8.out
               clear hb hS HCE HCL HRE HRF
               have x0 : w16.cell? ⟨bg, 0, none⟩ = some (.int .i64 (n : Int)) := heap_cell HXE.out rfl
               have x1 : w16.cell? ⟨bg, 1, none⟩ = some (.slice Ag es.length cg) := heap_cell HXE.out rfl
               go_wp2_with fail
               clear x0 x1 t1 r8
               refine (flat_calls k bo n Ag cg es gs w16 HGN.out HGE.out HGC.out HRC.out A6.out).mono ?_
               rintro e' w17 ⟨rfl, hb⟩
               have HBE2 := Aside0.mk (HBE.out.trans (hb.mono HBE.out.size))
               clear hb
               go_wp2_with fail
               go_ret
               exact ⟨by simp, HBE2.out⟩
             · obtain rfl : i = rs.length := by omega
               clear hlt hir hi
               have x0 : wr.cell? ⟨bg, 0, none⟩ = some (.int .i64 (n : Int)) := heap_cell HXE.out rfl
               have x1 : wr.cell? ⟨bg, 1, none⟩ = some (.slice Ag es.length cg) := heap_cell HXE.out rfl
               go_wp2_with fail
               clear x0 x1
               refine (copy_calls k n Ag cg es wr HGE.out HGC.out A1.out).mono ?_
               rintro e' w10 ⟨vg, rfl, hR, hb⟩
               replace HBE := Aside0.mk (HBE.out.trans (hb.mono HBE.out.size))
               replace HXE := Aside0.mk ((hb.block _ (lt_of HXE.out)).trans HXE.out)
               replace HGE := Aside0.mk (Kd.C_below HGE.out hb)
               replace HRC := Aside0.mk (Kd.C_below HRC.out hb)
               (try replace HCE := Aside0.mk (Kd.C_below HCE.out hb))
               obtain ⟨Ac, cc, rfl, hcc, hR⟩ := Kd.R_reads hR
               have HCE := Aside0.mk hR
               have HCL := Aside0.mk hcc
               clear hb hR hcc
               go_wp2_with fail
               refine (comps_Of.calls k (n : Int) Ac cc (eds es) o p 0 w10 HCE.out HCL.out A3.out).mono ?_
               rintro e' w11 ⟨vo, rfl, _, hb⟩
               replace HBE := Aside0.mk (HBE.out.trans (hb.mono HBE.out.size))
               replace HXE := Aside0.mk ((hb.block _ (lt_of HXE.out)).trans HXE.out)
               replace HGE := Aside0.mk (Kd.C_below HGE.out hb)
               replace HRC := Aside0.mk (Kd.C_below HRC.out hb)
               (try replace HCE := Aside0.mk (Kd.C_below HCE.out hb))
               clear hb HCE HCL
               have x0 : w11.cell? ⟨bg, 0, none⟩ = some (.int .i64 (n : Int)) := heap_cell HXE.out rfl
               have x1 : w11.cell? ⟨bg, 1, none⟩ = some (.slice Ag es.length cg) := heap_cell HXE.out rfl
               go_wp2_with fail
               clear x0 x1
               refine (copy_calls k n Ag cg es w11 HGE.out HGC.out A1.out).mono ?_
               rintro e' w12 ⟨vg, rfl, hR, hb⟩
               replace HBE := Aside0.mk (HBE.out.trans (hb.mono HBE.out.size))
               replace HXE := Aside0.mk ((hb.block _ (lt_of HXE.out)).trans HXE.out)
               replace HGE := Aside0.mk (Kd.C_below HGE.out hb)
               replace HRC := Aside0.mk (Kd.C_below HRC.out hb)
               (try replace HCE := Aside0.mk (Kd.C_below HCE.out hb))
               obtain ⟨Ac, cc, rfl, hcc, hR⟩ := Kd.R_reads hR
               have HCE := Aside0.mk hR
               have HCL := Aside0.mk hcc
               clear hb hR hcc
               go_wp2_with fail
               refine (comps_Isolated.calls k (n : Int) Ac cc (eds es) ii 0 w12 HCE.out HCL.out A4.out).mono ?_
               rintro e' w13 ⟨rfl, hb⟩
               replace HBE := Aside0.mk (HBE.out.trans (hb.mono HBE.out.size))
               replace HXE := Aside0.mk ((hb.block _ (lt_of HXE.out)).trans HXE.out)
               replace HGE := Aside0.mk (Kd.C_below HGE.out hb)
               replace HRC := Aside0.mk (Kd.C_below HRC.out hb)
               (try replace HCE := Aside0.mk (Kd.C_below HCE.out hb))
               clear hb HCE HCL
               have x0 : w13.cell? ⟨bg, 0, none⟩ = some (.int .i64 (n : Int)) := heap_cell HXE.out rfl
               have x1 : w13.cell? ⟨bg, 1, none⟩ = some (.slice Ag es.length cg) := heap_cell HXE.out rfl
               go_wp2_with fail
               clear x0 x1
               refine (copy_calls k n Ag cg es w13 HGE.out HGC.out A1.out).mono ?_
               rintro e' w14 ⟨vg, rfl, hR, hb⟩
               replace HBE := Aside0.mk (HBE.out.trans (hb.mono HBE.out.size))
               replace HXE := Aside0.mk ((hb.block _ (lt_of HXE.out)).trans HXE.out)
               replace HGE := Aside0.mk (Kd.C_below HGE.out hb)
               replace HRC := Aside0.mk (Kd.C_below HRC.out hb)
               (try replace HCE := Aside0.mk (Kd.C_below HCE.out hb))
               obtain ⟨Ac, cc, rfl, hcc, hR⟩ := Kd.R_reads hR
               have HCE := Aside0.mk hR
               have HCL := Aside0.mk hcc
               clear hb hR hcc
               go_wp2_with fail
               refine (rotcopy_calls k bo n gs w14 HGN.out HRC.out HRL.out A2.out).mono ?_
               rintro e' w15 ⟨vr, rfl, hS, hb⟩
               replace HBE := Aside0.mk (HBE.out.trans (hb.mono HBE.out.size))
               replace HXE := Aside0.mk ((hb.block _ (lt_of HXE.out)).trans HXE.out)
               replace HGE := Aside0.mk (Kd.C_below HGE.out hb)
               replace HRC := Aside0.mk (Kd.C_below HRC.out hb)
               (try replace HCE := Aside0.mk (Kd.C_below HCE.out hb))
               obtain ⟨Ar, cr, rfl, hcr, hS⟩ := Kd.S_reads hS
               have HRE := Aside0.mk hS
               have HRF := Aside0.mk hcr
               clear hb hS hcr
               go_wp2_with fail
               refine (faces_Of.calls k (n : Int) Ac cc (eds es) Ar cr gs fs 0 w15 HCE.out HCL.out HRE.out HRF.out A5.out).mono ?_
               rintro e' w16 ⟨vf, rfl, hS, hb⟩
               replace HBE := Aside0.mk (HBE.out.trans (hb.mono HBE.out.size))
               replace HXE := Aside0.mk ((hb.block _ (lt_of HXE.out)).trans HXE.out)
               replace HGE := Aside0.mk (Kd.C_below HGE.out hb)
               replace HRC := Aside0.mk (Kd.C_below HRC.out hb)
               (try replace HCE := Aside0.mk (Kd.C_below HCE.out hb))
               obtain ⟨Af, cf, rfl, _, _⟩ := Kd.S_reads hS
               have t0 : ((0 : Int) == 0) = true := rfl
               have t1 : ((fs.length : Int) == p - ii) = true := beq_iff_eq.2 A7.out
               have r8 := A8.out
               clear hb hS HCE HCL HRE HRF
               have x0 : w16.cell? ⟨bg, 0, none⟩ = some (.int .i64 (n : Int)) := heap_cell HXE.out rfl
               have x1 : w16.cell? ⟨bg, 1, none⟩ = some (.slice Ag es.length cg) := heap_cell HXE.out rfl
               go_wp2_with fail
               clear x0 x1 t1 r8
               refine (flat_calls k bo n Ag cg es gs w16 HGN.out HGE.out HGC.out HRC.out A6.out).mono ?_
               rintro e' w17 ⟨rfl, hb⟩
               have HBE2 := Aside0.mk (HBE.out.trans (hb.mono HBE.out.size))
               clear hb
               go_wp2_with fail
               go_ret
               exact ⟨by simp, HBE2.out⟩
end Go.Proofs.Ytmikcfddipldnaa.Mk
namespace Go.Proofs.Ytmikcfddipldnaa.Ring
set_option linter.unusedVariables false
set_option linter.unusedSimpArgs false
def Lead (f : Nat → Nat) (l : List Nat) (b : Nat) : Prop := l.map f = l.tail ++ [b]
def Ring (f : Nat → Nat) (l : List Nat) : Prop := l ≠ [] ∧ Lead f l (l.headD 0)
theorem lead_append {f : Nat → Nat} {a b c : Nat} {x y : List Nat} : Lead f (a :: x ++ b :: y) c ↔ Lead f (a :: x) b ∧ Lead f (b :: y) c := by
 unfold Lead
 constructor
 · intro h
   have h2 : (a :: x).map f ++ (b :: y).map f = (x ++ [b]) ++ (y ++ [c]) := by
     rw [← List.map_append, h]; simp
   have h3 := List.append_inj h2 (by simp)
   exact ⟨by rw [h3.1]; rfl, by rw [h3.2]; rfl⟩
 · rintro ⟨h1, h2⟩
   rw [List.map_append, h1, h2]; simp
theorem ring_cons {f : Nat → Nat} {a : Nat} {t : List Nat} : Ring f (a :: t) ↔ Lead f (a :: t) a := by
 unfold Ring; simp
theorem Ring.turn {f : Nat → Nat} {x y : List Nat} (h : Ring f (x ++ y)) : Ring f (y ++ x) := by
 cases x with
 | nil => simpa using h
 | cons a x =>
   cases y with
   | nil => simpa using h
   | cons b y =>
     have h1 : Ring f (a :: (x ++ b :: y)) := h
     rw [ring_cons] at h1
     have h2 := lead_append.1 (show Lead f (a :: x ++ b :: y) a from h1)
     show Ring f (b :: (y ++ a :: x))
     rw [ring_cons]
     exact lead_append.2 ⟨h2.2, h2.1⟩
theorem lead_congr {f g : Nat → Nat} {l : List Nat} {b : Nat} (h : ∀ x ∈ l, g x = f x) (hl : Lead f l b) : Lead g l b := by
 unfold Lead at hl ⊢
 rw [← hl]
 exact List.map_congr_left h
theorem Ring.congr {f g : Nat → Nat} {l : List Nat} (h : ∀ x ∈ l, g x = f x) (hl : Ring f l) : Ring g l := ⟨hl.1, lead_congr h hl.2⟩
theorem lead_swap {f g : Nat → Nat} {a b c : Nat} {x : List Nat} (hgb : g b = f a) (hx : ∀ y ∈ x, g y = f y) (h : Lead f (a :: x) c) : Lead g (b :: x) c := by
 unfold Lead at h ⊢
 rw [List.map_cons] at h ⊢
 rw [hgb, List.map_congr_left hx]
 exact h
structure Dec (f : Nat → Nat) (L : List (List Nat)) : Prop where
 ring : ∀ l ∈ L, Ring f l
 nodup : L.flatten.Nodup
theorem Dec.perm {f : Nat → Nat} {L L' : List (List Nat)} (h : Dec f L) (hp : L.Perm L') : Dec f L' :=
 ⟨fun l hl => h.ring l (hp.mem_iff.2 hl), (hp.flatten.nodup_iff).1 h.nodup⟩
theorem Dec.congr {f g : Nat → Nat} {L : List (List Nat)} (h : Dec f L) (hg : ∀ x ∈ L.flatten, g x = f x) : Dec g L :=
 ⟨fun l hl => (h.ring l hl).congr fun x hx => hg x (List.mem_flatten.2 ⟨l, hl, hx⟩), h.nodup⟩
theorem Dec.front {f : Nat → Nat} {L : List (List Nat)} {a : Nat} {l : List Nat} (h : Dec f L) (hl : l ∈ L) (ha : a ∈ l) : ∃ t L1, Dec f ((a :: t) :: L1) ∧ l.Perm (a :: t) ∧ L.Perm (l :: L1) := by
 obtain ⟨s, u, rfl⟩ := List.append_of_mem hl
 obtain ⟨x, y, rfl⟩ := List.append_of_mem ha
 have hp : (s ++ (x ++ a :: y) :: u).Perm ((x ++ a :: y) :: (s ++ u)) := List.perm_middle
 have h1 := h.perm hp
 refine ⟨y ++ x, s ++ u, ⟨fun l hl => ?_, ?_⟩, ?_, hp⟩
 · rcases List.mem_cons.1 hl with rfl | hl
   · exact (h1.ring _ (List.mem_cons_self ..)).turn
   · exact h1.ring _ (List.mem_cons_of_mem _ hl)
 · have q : ((x ++ a :: y) ++ (s ++ u).flatten).Perm ((a :: (y ++ x)) ++ (s ++ u).flatten) := List.Perm.append_right _ (by
     have := List.perm_append_comm (l₁ := x) (l₂ := a :: y)
     simpa using this)
   have h2 := h1.nodup
   rw [List.flatten_cons] at h2 ⊢
   exact q.nodup_iff.1 h2
 · have := List.perm_append_comm (l₁ := x) (l₂ := a :: y)
   simpa using this
def Within (R : Nat → Nat) (L : List (List Nat)) : Prop := ∀ l ∈ L, ∀ x ∈ l, ∀ y ∈ l, R x = R y
theorem Within.perm {R : Nat → Nat} {L L' : List (List Nat)} (h : Within R L) (hp : L.Perm L') : Within R L' := fun l hl => h l (hp.mem_iff.2 hl)
theorem Dec.swap {f g : Nat → Nat} {L : List (List Nat)} {a b : Nat} (h : Dec f L) (ha : a ∈ L.flatten) (hb : b ∈ L.flatten) (hab : a ≠ b) (hga : g a = f b) (hgb : g b = f a) (hg : ∀ x, x ≠ a → x ≠ b → g x = f x) :
   ∃ L', Dec g L' ∧ L'.flatten.Perm L.flatten ∧ (∀ R : Nat → Nat, R a = R b → Within R L → Within R L') ∧
     ((L'.length = L.length + 1 ∧ ∃ l ∈ L, a ∈ l ∧ b ∈ l) ∨ L'.length + 1 = L.length) := by
 obtain ⟨l, hl, hal⟩ := List.mem_flatten.1 ha
 obtain ⟨t, L1, h1, hp1, hp2⟩ := h.front hl hal
 have hf2 : ((a :: t) :: L1).flatten.Perm L.flatten := by
   refine List.Perm.trans ?_ hp2.flatten.symm
   rw [List.flatten_cons, List.flatten_cons]
   exact List.Perm.append_right _ hp1.symm
 have hnd := h1.nodup
 rw [List.flatten_cons] at hnd
 have hlen := hp2.length_eq
 rw [List.length_cons] at hlen
 have hW : ∀ R : Nat → Nat, Within R L → Within R ((a :: t) :: L1) := by
   intro R hR l2 hl2
   rcases List.mem_cons.1 hl2 with rfl | hl2
   · intro x hx y hy
     exact hR l hl x (hp1.mem_iff.2 hx) y (hp1.mem_iff.2 hy)
   · exact hR l2 (hp2.mem_iff.2 (List.mem_cons_of_mem _ hl2))
 by_cases hbt : b ∈ t
 · obtain ⟨x, y, rfl⟩ := List.append_of_mem hbt
   have hr := h1.ring _ (List.mem_cons_self ..)
   rw [ring_cons] at hr
   obtain ⟨r1, r2⟩ := lead_append.1 (show Lead f (a :: x ++ b :: y) a from hr)
   have hnd1 := hnd
   rw [List.nodup_append] at hnd1
   obtain ⟨n1, n2, n3⟩ := hnd1
   have m1 : ∀ z ∈ x, z ≠ a ∧ z ≠ b := by
     intro z hz
     rw [List.nodup_cons, List.nodup_append] at n1
     obtain ⟨k1, k2, k3, k4⟩ := n1
     exact ⟨fun e => k1 (by rw [← e]; simp [hz]), k4 z hz b (List.mem_cons_self ..)⟩
   have m2 : ∀ z ∈ y, z ≠ a ∧ z ≠ b := by
     intro z hz
     rw [List.nodup_cons, List.nodup_append, List.nodup_cons] at n1
     obtain ⟨k1, k2, ⟨k3, _⟩, k4⟩ := n1
     exact ⟨fun e => k1 (by rw [← e]; simp [hz]), fun e => k3 (by rw [← e]; exact hz)⟩
   have q : ((b :: x) ++ ((a :: y) ++ L1.flatten)).Perm ((a :: (x ++ b :: y)) ++ L1.flatten) := by
     rw [← List.append_assoc]
     refine List.Perm.append_right _ ?_
     have e1 : ((b :: x) ++ (a :: y)).Perm (a :: ((b :: x) ++ y)) := List.perm_middle
     have e2 : ((b :: x) ++ y).Perm (x ++ b :: y) := (List.perm_middle (a := b) (l₁ := x) (l₂ := y)).symm
     exact e1.trans (e2.cons a)
   refine ⟨(b :: x) :: (a :: y) :: L1, ⟨fun l2 hl2 => ?_, ?_⟩, ?_, fun R hab2 hR => ?_, .inl ⟨by simp; omega, l, hl, hal, hp1.mem_iff.2 (by simp)⟩⟩
   · rcases List.mem_cons.1 hl2 with rfl | hl2
     · rw [ring_cons]
       exact lead_swap hgb (fun z hz => hg z (m1 z hz).1 (m1 z hz).2) r1
     · rcases List.mem_cons.1 hl2 with rfl | hl2
       · rw [ring_cons]
         exact lead_swap hga (fun z hz => hg z (m2 z hz).1 (m2 z hz).2) r2
       · refine (h1.ring _ (List.mem_cons_of_mem _ hl2)).congr fun z hz => ?_
         have hz2 : z ∈ L1.flatten := List.mem_flatten.2 ⟨l2, hl2, hz⟩
         exact hg z (fun e => n3 a (by simp) z hz2 e.symm) (fun e => n3 b (by simp) z hz2 e.symm)
   · rw [List.flatten_cons, List.flatten_cons]
     exact q.nodup_iff.2 hnd
   · rw [List.flatten_cons, List.flatten_cons]
     rw [List.flatten_cons] at hf2
     exact q.trans hf2
   · have h3 := hW R hR
     have h4 := h3 _ (List.mem_cons_self ..)
     intro l2 hl2
     rcases List.mem_cons.1 hl2 with rfl | hl2
     · intro u hu v hv
       refine h4 u ?_ v ?_
       · rcases List.mem_cons.1 hu with rfl | hu <;> simp_all
       · rcases List.mem_cons.1 hv with rfl | hv <;> simp_all
     · rcases List.mem_cons.1 hl2 with rfl | hl2
       · intro u hu v hv
         refine h4 u ?_ v ?_
         · rcases List.mem_cons.1 hu with rfl | hu <;> simp_all
         · rcases List.mem_cons.1 hv with rfl | hv <;> simp_all
       · exact h3 l2 (List.mem_cons_of_mem _ hl2)
 · have hb2 : b ∈ L1.flatten := by
     have := hf2.mem_iff.2 hb
     rw [List.flatten_cons] at this
     rcases List.mem_append.1 this with q | q
     · rcases List.mem_cons.1 q with q | q
       · exact absurd q.symm hab
       · exact absurd q hbt
     · exact q
   obtain ⟨l2, hl2, hbl⟩ := List.mem_flatten.1 hb2
   have hp3 : ((a :: t) :: L1).Perm (L1 ++ [a :: t]) := by
     have := List.perm_append_comm (l₁ := [a :: t]) (l₂ := L1)
     simpa using this
   obtain ⟨u, L2, h2, hp4, hp5⟩ := (h1.perm hp3).front (l := l2) (by simp [hl2]) hbl
   have hat : (a :: t) ∈ L2 := by
     have h6 : (a :: t) ∈ l2 :: L2 := hp5.mem_iff.1 (by simp)
     rcases List.mem_cons.1 h6 with q | q
     · exfalso
       rw [← q] at hbl
       rcases List.mem_cons.1 hbl with q | q
       · exact hab q.symm
       · exact hbt q
     · exact q
   obtain ⟨s1, s2, rfl⟩ := List.append_of_mem hat
   have hp6 : ((b :: u) :: (s1 ++ (a :: t) :: s2)).Perm ((b :: u) :: (a :: t) :: (s1 ++ s2)) := List.Perm.cons _ List.perm_middle
   have h3 := h2.perm hp6
   have hnd3 := h3.nodup
   rw [List.flatten_cons, List.flatten_cons] at hnd3
   have hlen2 := hp3.length_eq
   have hlen3 := hp5.length_eq
   have rb := h3.ring _ (List.mem_cons_self ..)
   have ra := h3.ring _ (List.mem_cons_of_mem _ (List.mem_cons_self ..))
   rw [ring_cons] at ra rb
   have hnd4 := hnd3
   rw [List.nodup_append, List.nodup_append] at hnd4
   obtain ⟨n1, ⟨n2, n3, n4⟩, n5⟩ := hnd4
   have q : ((a :: u ++ b :: t) ++ (s1 ++ s2).flatten).Perm ((b :: u) ++ ((a :: t) ++ (s1 ++ s2).flatten)) := by
     rw [← List.append_assoc]
     refine List.Perm.append_right _ ?_
     have e1 : ((b :: u) ++ (a :: t)).Perm (a :: ((b :: u) ++ t)) := List.perm_middle
     have e2 : (u ++ b :: t).Perm (b :: (u ++ t)) := List.perm_middle
     exact (e2.cons a).trans e1.symm
   have hff : ((b :: u) ++ ((a :: t) ++ (s1 ++ s2).flatten)).Perm L.flatten := by
     have e0 := hp6.flatten
     rw [List.flatten_cons, List.flatten_cons, List.flatten_cons] at e0
     refine e0.symm.trans ?_
     have e1 := hp5.flatten
     rw [List.flatten_cons] at e1
     refine List.Perm.trans (List.Perm.append_right _ hp4.symm) ?_
     exact e1.symm.trans (hp3.flatten.symm.trans hf2)
   refine ⟨(a :: u ++ b :: t) :: (s1 ++ s2), ⟨fun l3 hl3 => ?_, ?_⟩, ?_, fun R hab2 hR => ?_, .inr ?_⟩
   · rcases List.mem_cons.1 hl3 with rfl | hl3
     · show Ring g (a :: (u ++ b :: t))
       rw [ring_cons]
       refine lead_append.2 ⟨lead_swap hga (fun z hz => ?_) rb, lead_swap hgb (fun z hz => ?_) ra⟩
       · rw [List.nodup_cons] at n1
         exact hg z (fun e => n5 z (List.mem_cons_of_mem _ hz) a (by simp) e) (fun e => n1.1 (by rw [← e]; exact hz))
       · rw [List.nodup_cons] at n2
         exact hg z (fun e => n2.1 (by rw [← e]; exact hz)) (fun e => n5 b (List.mem_cons_self ..) z (by simp [hz]) e.symm)
     · refine (h3.ring _ (List.mem_cons_of_mem _ (List.mem_cons_of_mem _ hl3))).congr fun z hz => ?_
       have hz2 : z ∈ (s1 ++ s2).flatten := List.mem_flatten.2 ⟨l3, hl3, hz⟩
       exact hg z (fun e => n4 a (List.mem_cons_self ..) z hz2 e.symm) (fun e => n5 b (List.mem_cons_self ..) z (List.mem_append_right _ hz2) e.symm)
   · rw [List.flatten_cons]
     exact q.nodup_iff.2 hnd3
   · rw [List.flatten_cons]
     exact q.trans hff
   · have h4 := hW R hR
     have h5 := h4.perm hp3
     have h6 := h5.perm hp5
     have k1 := h6 _ (List.mem_cons_self ..)
     have k2 := h6 _ (List.mem_cons_of_mem _ hat)
     intro l3 hl3
     rcases List.mem_cons.1 hl3 with rfl | hl3
     · have key : ∀ z ∈ (a :: u ++ b :: t), R z = R a := by
         intro z hz
         rcases List.mem_append.1 hz with hz | hz
         · rcases List.mem_cons.1 hz with rfl | hz
           · rfl
           · rw [hab2]
             exact k1 z (hp4.mem_iff.2 (List.mem_cons_of_mem _ hz)) b (hp4.mem_iff.2 (List.mem_cons_self ..))
         · rcases List.mem_cons.1 hz with rfl | hz
           · exact hab2.symm
           · exact k2 z (List.mem_cons_of_mem _ hz) a (List.mem_cons_self ..)
       intro x hx y hy
       rw [key x hx, key y hy]
     · exact h6 l3 (List.mem_cons_of_mem _ (by
         rcases List.mem_append.1 hl3 with q | q
         · exact List.mem_append_left _ q
         · exact List.mem_append_right _ (List.mem_cons_of_mem _ q)))
   · simp only [List.length_cons, List.length_append] at *
     omega
def nth (f : Nat → Nat) (x : Nat) : Nat → Nat
 | 0 => x
 | k + 1 => f (nth f x k)
theorem lead_nth {f : Nat → Nat} {b : Nat} : ∀ (l : List Nat) (x : Nat), Lead f (x :: l) b → ∀ y ∈ x :: l, ∃ k, y = nth f x k
 | [], x, _, y, hy => ⟨0, by simpa [nth] using hy⟩
 | z :: l, x, h, y, hy => by
   have h1 := lead_append.1 (show Lead f ([x] ++ z :: l) b from h)
   rcases List.mem_cons.1 hy with rfl | hy
   · exact ⟨0, rfl⟩
   · obtain ⟨k, hk⟩ := lead_nth l z h1.2 y hy
     have e : f x = z := by
       have := h1.1
       unfold Lead at this
       simpa using this
     refine ⟨k + 1, ?_⟩
     have key : ∀ k, nth f z k = nth f x (k + 1) := by
       intro k
       induction k with
       | zero => exact e.symm
       | succ k ih => show f (nth f z k) = f (nth f x (k + 1)); rw [ih]
     rw [hk, key]
theorem Ring.closed {f : Nat → Nat} {l : List Nat} (h : Ring f l) {x : Nat} (hx : x ∈ l) : f x ∈ l := by
 obtain ⟨h1, h2⟩ := h
 cases l with
 | nil => exact absurd rfl h1
 | cons a t =>
   unfold Lead at h2
   have : f x ∈ (a :: t).map f := List.mem_map.2 ⟨x, hx, rfl⟩
   rw [h2] at this
   simpa [or_comm] using this
theorem Ring.nth {f : Nat → Nat} {l : List Nat} (h : Ring f l) {x : Nat} (hx : x ∈ l) : ∀ k, nth f x k ∈ l
 | 0 => hx
 | k + 1 => h.closed (Ring.nth h hx k)
theorem Ring.sub {f : Nat → Nat} {l m : List Nat} (h : Ring f l) (k : Ring f m) {x : Nat} (hx : x ∈ l) (hy : x ∈ m) : ∀ y ∈ l, y ∈ m := by
 obtain ⟨u, v, rfl⟩ := List.append_of_mem hx
 have h1 := h.turn
 intro y hy2
 have h2 : Ring f (x :: (v ++ u)) := h1
 rw [ring_cons] at h2
 obtain ⟨j, rfl⟩ := lead_nth _ _ h2 y (by simp at hy2 ⊢; rcases hy2 with q | q | q <;> simp [q])
 exact k.nth hy j
theorem perm_of_same {l m : List Nat} (hl : l.Nodup) (hm : m.Nodup) (h : ∀ x, x ∈ l ↔ x ∈ m) : l.Perm m := (List.perm_ext_iff_of_nodup hl hm).2 h
theorem Dec.unique {f : Nat → Nat} {α : Type} (φ : List Nat → α) (hφ : ∀ l m, l.Perm m → φ l = φ m) : ∀ (L M : List (List Nat)), Dec f L → Dec f M → L.flatten.Perm M.flatten → (L.map φ).Perm (M.map φ)
 | [], [], _, _, _ => List.Perm.refl _
 | [], m :: M, _, h2, hp => by
   exfalso
   have h3 := h2.ring m (List.mem_cons_self ..)
   have h4 := hp.length_eq
   simp only [List.flatten_nil, List.length_nil, List.flatten_cons, List.length_append] at h4
   exact h3.1 (List.length_eq_zero_iff.1 (by omega))
 | l :: L, M, h1, h2, hp => by
   have hr := h1.ring l (List.mem_cons_self ..)
   obtain ⟨x, hx⟩ := List.exists_mem_of_ne_nil l hr.1
   have hxM : x ∈ M.flatten := hp.mem_iff.1 (List.mem_flatten.2 ⟨l, List.mem_cons_self .., hx⟩)
   obtain ⟨m, hm, hxm⟩ := List.mem_flatten.1 hxM
   have hrm := h2.ring m hm
   obtain ⟨s, u, rfl⟩ := List.append_of_mem hm
   have hpm : (s ++ m :: u).Perm (m :: (s ++ u)) := List.perm_middle
   have h2' := h2.perm hpm
   have n1 := h1.nodup
   have n2 := h2'.nodup
   rw [List.flatten_cons, List.nodup_append] at n1 n2
   have hlm : l.Perm m := perm_of_same n1.1 n2.1 (fun y => ⟨hr.sub hrm hx hxm y, hrm.sub hr hxm hx y⟩)
   have hp2 : (l ++ L.flatten).Perm (m ++ (s ++ u).flatten) := by
     have e := hp.trans hpm.flatten
     rw [List.flatten_cons, List.flatten_cons] at e
     exact e
   have hp3 : L.flatten.Perm (s ++ u).flatten := by
     have e := hp2.trans (List.Perm.append_right _ hlm.symm)
     exact (List.perm_append_left_iff l).1 e
   have ih := Dec.unique φ hφ L (s ++ u) ⟨fun y hy => h1.ring y (List.mem_cons_of_mem _ hy), n1.2.1⟩ ⟨fun y hy => h2'.ring y (List.mem_cons_of_mem _ hy), n2.2.1⟩ hp3
   rw [List.map_cons, hφ l m hlm]
   refine List.Perm.trans (List.Perm.cons _ ih) ?_
   rw [← List.map_cons]
   exact (hpm.map φ).symm
def twn (x : Nat) : Nat := if x % 2 = 0 then x + 1 else x - 1
def upTo (f : Nat → Nat) (t : Nat) (x : Nat) : Nat := if x < 2 * t then f (twn x) else f x
theorem upTo_zero (f : Nat → Nat) : upTo f 0 = f := by funext x; unfold upTo; rw [if_neg (by omega)]
theorem upTo_a (f : Nat → Nat) (t : Nat) : upTo f (t + 1) (2 * t) = upTo f t (2 * t + 1) := by
 unfold upTo twn; rw [if_pos (by omega), if_pos (by omega), if_neg (by omega)]
theorem upTo_b (f : Nat → Nat) (t : Nat) : upTo f (t + 1) (2 * t + 1) = upTo f t (2 * t) := by
 unfold upTo twn; rw [if_pos (by omega), if_neg (by omega), if_neg (by omega)]; rfl
theorem upTo_other (f : Nat → Nat) (t x : Nat) (h1 : x ≠ 2 * t) (h2 : x ≠ 2 * t + 1) : upTo f (t + 1) x = upTo f t x := by
 unfold upTo
 by_cases c : x < 2 * t
 · rw [if_pos (by omega), if_pos c]
 · rw [if_neg (by omega), if_neg c]
def inn (F : List Nat) (t : Nat) : Nat := (List.range t).countP fun e => decide (2 * e ∈ F)
theorem inn_succ (F : List Nat) (t : Nat) : inn F (t + 1) = inn F t + if 2 * t ∈ F then 1 else 0 := by
 unfold inn
 rw [List.range_succ, List.countP_append]
 by_cases h : 2 * t ∈ F <;> simp [h]
theorem parity {f : Nat → Nat} {L : List (List Nat)} (h : Dec f L) (he : ∀ e, 2 * e ∈ L.flatten ↔ 2 * e + 1 ∈ L.flatten) : ∀ t, ∃ L', Dec (upTo f t) L' ∧ L'.flatten.Perm L.flatten ∧ (L'.length + L.length + inn L.flatten t) % 2 = 0 ∧ L.length ≤ L'.length + inn L.flatten t
 | 0 => ⟨L, by rw [upTo_zero]; exact h, List.Perm.refl _, by simp [inn]; omega, by simp [inn]⟩
 | t + 1 => by
   obtain ⟨L1, h1, h2, h3, h4⟩ := parity h he t
   rw [inn_succ]
   by_cases c : 2 * t ∈ L.flatten
   · obtain ⟨L2, k1, k2, _, k3⟩ := h1.swap (g := upTo f (t + 1)) (a := 2 * t) (b := 2 * t + 1) (h2.mem_iff.2 c) (h2.mem_iff.2 ((he t).1 c)) (by omega) (upTo_a f t) (upTo_b f t) (upTo_other f t)
     rw [if_pos c]
     refine ⟨L2, k1, k2.trans h2, ?_, ?_⟩
     · rcases k3 with ⟨k3, _⟩ | k3 <;> omega
     · rcases k3 with ⟨k3, _⟩ | k3 <;> omega
   · rw [if_neg c]
     refine ⟨L1, h1.congr fun x hx => upTo_other f t x (fun e => c (h2.mem_iff.1 (by rw [← e]; exact hx))) (fun e => c ((he t).2 (h2.mem_iff.1 (by rw [← e]; exact hx)))), h2, h3, h4⟩
end Go.Proofs.Ytmikcfddipldnaa.Ring
namespace Go.Proofs.Ytmikcfddipldnaa.Ring
set_option linter.unusedVariables false
set_option linter.unusedSimpArgs false
theorem ring_perm {f : Nat → Nat} {l : List Nat} (h : Ring f l) : (l.map f).Perm l := by
 obtain ⟨h1, h2⟩ := h
 cases l with
 | nil => exact absurd rfl h1
 | cons a t =>
   unfold Lead at h2
   rw [h2]
   simp
theorem Dec.map_perm {f : Nat → Nat} : ∀ {L : List (List Nat)}, Dec f L → (L.flatten.map f).Perm L.flatten
 | [], _ => List.Perm.refl _
 | l :: L, h => by
   have hn := h.nodup
   rw [List.flatten_cons, List.nodup_append] at hn
   rw [List.flatten_cons, List.map_append]
   exact (ring_perm (h.ring l (List.mem_cons_self ..))).append (Dec.map_perm ⟨fun m hm => h.ring m (List.mem_cons_of_mem _ hm), hn.2.1⟩)
theorem inj_of_nodup {f : Nat → Nat} : ∀ {l : List Nat}, (l.map f).Nodup → ∀ x ∈ l, ∀ y ∈ l, f x = f y → x = y
 | [], _, x, hx, _, _, _ => absurd hx (by simp)
 | a :: l, h, x, hx, y, hy, e => by
   rw [List.map_cons, List.nodup_cons] at h
   rcases List.mem_cons.1 hx with hx | hx <;> rcases List.mem_cons.1 hy with hy | hy
   · rw [hx, hy]
   · rw [hx] at e
     exact absurd (List.mem_map.2 ⟨y, hy, e.symm⟩) h.1
   · rw [hy] at e
     exact absurd (List.mem_map.2 ⟨x, hx, e⟩) h.1
   · exact inj_of_nodup h.2 x hx y hy e
theorem Dec.inj {f : Nat → Nat} {L : List (List Nat)} (h : Dec f L) : ∀ x ∈ L.flatten, ∀ y ∈ L.flatten, f x = f y → x = y := inj_of_nodup ((h.map_perm.nodup_iff).2 h.nodup)
theorem Dec.closed {f : Nat → Nat} {L : List (List Nat)} (h : Dec f L) {x : Nat} (hx : x ∈ L.flatten) : f x ∈ L.flatten := by
 obtain ⟨l, hl, hxl⟩ := List.mem_flatten.1 hx
 exact List.mem_flatten.2 ⟨l, hl, (h.ring l hl).closed hxl⟩
theorem Dec.back {f : Nat → Nat} {L : List (List Nat)} (h : Dec f L) {x : Nat} (hx : x ∈ L.flatten) : ∃ y ∈ L.flatten, f y = x := by
 have := h.map_perm.mem_iff.2 hx
 exact List.mem_map.1 this
theorem lead_last {f : Nat → Nat} {l : List Nat} {b : Nat} (h : Lead f l b) (hl : l ≠ []) : ∃ q ∈ l, f q = b := by
 have : b ∈ l.map f := by unfold Lead at h; rw [h]; simp
 exact List.mem_map.1 this
end Go.Proofs.Ytmikcfddipldnaa.Ring
namespace Go.Proofs.Ytmikcfddipldnaa.Face
open Go.RowKit Go.Proofs.YtmikcfddipldnaaW.PrintWords Go.Proofs.YtmikcfddipldnaaW.PrintLast Go.Proofs.YtmikcfddipldnaaW.PrintMore Go.Proofs.Ytmikcfddipldnaa.Mem Go.Proofs.Ytmikcfddipldnaa.Ring
set_option linter.unusedVariables false
set_option linter.unusedSimpArgs false
def zN (l : List Nat) : List Int := l.map fun (x : Nat) => (x : Int)
theorem zN_snoc (l : List Nat) (x : Nat) : zN l ++ [(x : Int)] = zN (l ++ [x]) := by unfold zN; simp
structure Steps (f : Nat → Nat) (st : List Int) : Prop where
 at_ : ∀ i, i < st.length → gi st i = (f i : Int)
 inn : ∀ i, i < st.length → f i < st.length
 inj : ∀ i j, i < st.length → j < st.length → f i = f j → i = j
section
variable {f : Nat → Nat} {st : List Int}
theorem Steps.close (h : Steps f st) {D fc : List Nat} {k hd : Nat} (hD : ∀ x ∈ D, x < st.length) (hb : ∀ x ∈ D, ∃ y ∈ D, f y = x) (hhd : hd ∉ D) (hn : fc.Nodup) (hfc : ∀ x ∈ fc, x < st.length ∧ x ∉ D) (hl : (fc = [] ∧ k = hd) ∨ (fc ≠ [] ∧ fc.headD 0 = hd ∧ Lead f fc k)) (hk : k ∈ D ∨ k ∈ fc) :
   fc ≠ [] ∧ fc.headD 0 = hd ∧ Ring f fc := by
 rcases hl with ⟨rfl, rfl⟩ | ⟨h1, h2, h3⟩
 · rcases hk with q | q
   · exact absurd q hhd
   · cases q
 · refine ⟨h1, h2, h1, ?_⟩
   obtain ⟨q, hq, e⟩ := lead_last h3 h1
   rcases hk with hk | hk
   · obtain ⟨y, hy, e2⟩ := hb k hk
     have := h.inj q y (hfc q hq).1 (hD y hy) (e.trans e2.symm)
     exact absurd (this ▸ hy) (hfc q hq).2
   · obtain ⟨u, v, rfl⟩ := List.append_of_mem hk
     cases u with
     | nil => exact h3
     | cons a u =>
       exfalso
       obtain ⟨l1, l2⟩ := lead_append.1 h3
       obtain ⟨p, hp, e3⟩ := lead_last l1 (by simp)
       obtain ⟨q2, hq2, e4⟩ := lead_last l2 (by simp)
       have := h.inj p q2 (hfc p (List.mem_append_left _ hp)).1 (hfc q2 (List.mem_append_right _ hq2)).1 (e3.trans e4.symm)
       rw [List.nodup_append] at hn
       exact hn.2.2 p hp q2 hq2 this
theorem goFace_spec (h : Steps f st) {D : List Nat} {hd : Nat} (hD : ∀ x ∈ D, x < st.length) (hb : ∀ x ∈ D, ∃ y ∈ D, f y = x) (hhd : hd ∉ D) :
   ∀ (n : Nat) (T : List Bool) (fc : List Nat) (k : Nat), T.length = st.length → left T ≤ n → k < st.length → fc.Nodup → (∀ x ∈ fc, x < st.length ∧ x ∉ D) → ((fc = [] ∧ k = hd) ∨ (fc ≠ [] ∧ fc.headD 0 = hd ∧ Lead f fc k)) → (∀ i, i < st.length → (gb T i = true ↔ i ∈ D ∨ i ∈ fc)) →
     ∃ T' fc', goFace st n T (zN fc) (k : Int) = (T', zN fc') ∧ Ring f fc' ∧ fc'.headD 0 = hd ∧ fc'.Nodup ∧ (∀ x ∈ fc', x < st.length ∧ x ∉ D) ∧ T'.length = st.length ∧ ∀ i, i < st.length → (gb T' i = true ↔ i ∈ D ∨ i ∈ fc')
 | 0, T, fc, k, hT, hl, hk, hn, hfc, hc, hg => by
   have h1 := left_zero (S := T) (by omega) (i := k) (by omega)
   obtain ⟨c1, c2, c3⟩ := h.close hD hb hhd hn hfc hc ((hg k hk).1 h1)
   exact ⟨T, fc, rfl, c3, c2, hn, hfc, hT, hg⟩
 | n + 1, T, fc, k, hT, hl, hk, hn, hfc, hc, hg => by
   cases hgk : gb T k with
   | true =>
     obtain ⟨c1, c2, c3⟩ := h.close hD hb hhd hn hfc hc ((hg k hk).1 hgk)
     refine ⟨T, fc, ?_, c3, c2, hn, hfc, hT, hg⟩
     unfold goFace
     rw [if_pos (by rw [Int.toNat_natCast]; exact hgk)]
   | false =>
     have hno : ¬ (k ∈ D ∨ k ∈ fc) := fun e => by rw [(hg k hk).2 e] at hgk; cases hgk
     have hls := left_set T k (by omega) hgk
     obtain ⟨T', fc', e1, e2⟩ := goFace_spec h hD hb hhd n (T.set k true) (fc ++ [k]) (f k) (by rw [List.length_set]; exact hT) (by omega) (h.inn k hk)
       (by
         rw [List.nodup_append]
         refine ⟨hn, by simp, fun a ha b hb e => ?_⟩
         rw [List.mem_singleton] at hb
         exact hno (.inr (by rw [← hb, ← e]; exact ha)))
       (fun x hx => by
         rcases List.mem_append.1 hx with hx | hx
         · exact hfc x hx
         · rw [List.mem_singleton] at hx
           rw [hx]
           exact ⟨hk, fun e => hno (.inl e)⟩)
       (.inr ⟨by simp, by
         rcases hc with ⟨rfl, rfl⟩ | ⟨c1, c2, c3⟩
         · rfl
         · cases fc with
           | nil => exact absurd rfl c1
           | cons a t => exact c2, by
         rcases hc with ⟨rfl, rfl⟩ | ⟨c1, c2, c3⟩
         · show Lead f [k] (f k)
           unfold Lead; simp
         · cases fc with
           | nil => exact absurd rfl c1
           | cons a t => exact lead_append.2 ⟨c3, by unfold Lead; simp⟩⟩)
       (fun i hi => by
         rw [gb_set, List.mem_append, List.mem_singleton]
         by_cases e : k = i
         · rw [if_pos ⟨e, by omega⟩]
           simp [e]
         · rw [if_neg (fun q => e q.1), hg i hi]
           simp [Ne.symm e])
     refine ⟨T', fc', ?_, e2⟩
     unfold goFace
     rw [if_neg (by rw [Int.toNat_natCast, hgk]; simp), Int.toNat_natCast, zN_snoc, h.at_ k hk]
     exact e1
theorem gb_none (n j : Nat) : gb (List.replicate n false) j = false := by
 unfold gb
 by_cases h : j < n <;> simp [List.getD_eq_getElem?_getD, List.getElem?_replicate, h]
structure Faced (f : Nat → Nat) (M h : Nat) (S : List Bool) (out : List (List Nat)) : Prop where
 len : S.length = M
 dec : Dec f out
 seen : ∀ i, i < M → (gb S i = true ↔ i ∈ out.flatten)
 inn : ∀ x ∈ out.flatten, x < M
 all : ∀ i, i < h → i ∈ out.flatten
 rise : out.Pairwise fun a b => a.headD 0 < b.headD 0
 head : ∀ l ∈ out, l.headD 0 < h ∧ ∀ x ∈ l, l.headD 0 ≤ x
theorem facesTo_spec (h : Steps f st) : ∀ m, m ≤ st.length → ∃ out, (facesTo st st.length m).2 = out.map zN ∧ Faced f st.length m (facesTo st st.length m).1 out
 | 0, _ => ⟨[], rfl, by simp [facesTo], ⟨by simp, by simp⟩, fun i hi => by simp [facesTo, gb_none], by simp, by omega, by simp, by simp⟩
 | m + 1, hm => by
   obtain ⟨out, e, F⟩ := facesTo_spec h m (by omega)
   unfold facesTo
   by_cases c : gb (facesTo st st.length m).1 m = true
   · rw [if_pos c]
     refine ⟨out, e, F.len, F.dec, F.seen, F.inn, fun i hi => ?_, F.rise, fun l hl => ⟨by have := (F.head l hl).1; omega, (F.head l hl).2⟩⟩
     rcases Nat.lt_succ_iff_lt_or_eq.1 hi with q | rfl
     · exact F.all i q
     · exact (F.seen i (by omega)).1 c
   · rw [if_neg c]
     have hmD : m ∉ out.flatten := fun q => c ((F.seen m (by omega)).2 q)
     obtain ⟨T', fc, e1, e2, e3, e4, e5, e6, e7⟩ := goFace_spec h (D := out.flatten) (hd := m) F.inn (fun x hx => F.dec.back hx) hmD st.length (facesTo st st.length m).1 [] m F.len (by have := left_le (facesTo st st.length m).1; have := F.len; omega) (by omega) (by simp) (by simp) (.inl ⟨rfl, rfl⟩) (fun i hi => by rw [F.seen i hi]; simp)
     have e1' : goFace st st.length (facesTo st st.length m).1 [] (m : Int) = (T', zN fc) := e1
     rw [e1']
     have hfl : (out ++ [fc]).flatten = out.flatten ++ fc := by simp
     refine ⟨out ++ [fc], by rw [e]; simp, e6, ⟨fun l hl => ?_, ?_⟩, fun i hi => ?_, fun x hx => ?_, fun i hi => ?_, ?_, fun l hl => ?_⟩
     · rcases List.mem_append.1 hl with hl | hl
       · exact F.dec.ring l hl
       · rw [List.mem_singleton] at hl
         rw [hl]; exact e2
     · rw [hfl, List.nodup_append]
       exact ⟨F.dec.nodup, e4, fun a ha b hb q => (e5 b hb).2 (by rw [← q]; exact ha)⟩
     · rw [hfl, List.mem_append]
       exact e7 i hi
     · rw [hfl, List.mem_append] at hx
       rcases hx with hx | hx
       · exact F.inn x hx
       · exact (e5 x hx).1
     · rw [hfl, List.mem_append]
       rcases Nat.lt_succ_iff_lt_or_eq.1 hi with q | rfl
       · exact .inl (F.all i q)
       · right
         rw [← e3]
         cases fc with
         | nil => exact absurd rfl e2.1
         | cons a t => simp
     · rw [List.pairwise_append]
       refine ⟨F.rise, by simp, fun a ha b hb => ?_⟩
       rw [List.mem_singleton] at hb
       rw [hb, e3]
       exact (F.head a ha).1
     · rcases List.mem_append.1 hl with hl | hl
       · exact ⟨by have := (F.head l hl).1; omega, (F.head l hl).2⟩
       · rw [List.mem_singleton] at hl
         rw [hl, e3]
         refine ⟨by omega, fun x hx => ?_⟩
         have := (e5 x hx).2
         rcases Nat.lt_or_ge x m with q | q
         · exact absurd (F.all x q) this
         · exact q
structure Faces (f : Nat → Nat) (M : Nat) (F : List (List Nat)) : Prop where
 dec : Dec f F
 perm : F.flatten.Perm (List.range M)
 rise : F.Pairwise fun a b => a.headD 0 < b.headD 0
 head : ∀ l ∈ F, ∀ x ∈ l, l.headD 0 ≤ x
theorem facesL_spec (h : Steps f st) : ∃ F, facesL st = F.map zN ∧ Faces f st.length F := by
 obtain ⟨out, e, F⟩ := facesTo_spec h st.length (Nat.le_refl _)
 refine ⟨out, e, F.dec, ?_, F.rise, fun l hl => (F.head l hl).2⟩
 exact perm_of_same F.dec.nodup List.nodup_range (fun x => ⟨fun hx => by rw [List.mem_range]; exact F.inn x hx, fun hx => F.all x (by rw [List.mem_range] at hx; exact hx)⟩)
theorem Faces.unique {M : Nat} {F G : List (List Nat)} (hF : Faces f M F) (hG : Faces f M G) {α : Type} (φ : List Nat → α) (hφ : ∀ l m, l.Perm m → φ l = φ m) : (F.map φ).Perm (G.map φ) :=
 Dec.unique φ hφ F G hF.dec hG.dec (hF.perm.trans hG.perm.symm)
end
end Go.Proofs.Ytmikcfddipldnaa.Face
namespace Go.Proofs.Ytmikcfddipldnaa.Rot
open Go.RowKit Go.Proofs.YtmikcfddipldnaaW.PrintWords Go.Proofs.YtmikcfddipldnaaW.PrintLast Go.Proofs.YtmikcfddipldnaaW.PrintMore Go.Proofs.Ytmikcfddipldnaa.GAll Go.Proofs.Ytmikcfddipldnaa.Mem Go.Proofs.Ytmikcfddipldnaa.Ring Go.Proofs.Ytmikcfddipldnaa.Face
set_option linter.unusedVariables false
set_option linter.unusedSimpArgs false
theorem ring_of_mod {f : Nat → Nat} {l : List Nat} (hl : l ≠ []) (h : ∀ j, j < l.length → f (l.getD j 0) = l.getD ((j + 1) % l.length) 0) : Ring f l := by
 cases l with
 | nil => exact absurd rfl hl
 | cons a t =>
   rw [ring_cons]
   unfold Lead
   apply List.ext_getElem
   · simp
   · intro i h1 h2
     have hi : i < (a :: t).length := by simpa using h1
     have hh := h i hi
     rw [List.getD_eq_getElem?_getD, List.getD_eq_getElem?_getD, List.getElem?_eq_getElem hi, Option.getD_some] at hh
     rw [List.getElem_map, hh]
     show _ = (t ++ [a])[i]'(by simpa using hi)
     by_cases c : i + 1 < (a :: t).length
     · rw [Nat.mod_eq_of_lt c, List.getElem?_eq_getElem c, List.getElem_append_left (by simp at c; omega)]
       rfl
     · have e : (i + 1) % (a :: t).length = 0 := by
         have : i + 1 = (a :: t).length := by omega
         rw [this, Nat.mod_self]
       rw [e, List.getElem_append_right (by simp at c hi ⊢; omega)]
       simp
def fN (l : List Int) : List Nat := l.map Int.toNat
theorem fN_getD (l : List Int) (j : Nat) : (fN l).getD j 0 = (gi l j).toNat := by
 unfold fN gi
 rw [List.getD_eq_getElem?_getD, List.getD_eq_getElem?_getD, List.getElem?_map]
 cases l[j]? <;> rfl
def rowsN (r : List (List Int)) : List (List Nat) := r.map fN
def nxf (l : List Ed) (r : List (List Int)) (h : Nat) : Nat := (gi (nxOf l r) h).toNat
theorem rowsN_get {r : List (List Int)} {i : Nat} (h : i < r.length) {h2 : i < (rowsN r).length} : (rowsN r)[i] = fN (gl r i) := by
 have e : gl r i = r[i] := by unfold gl; rw [List.getD_eq_getElem?_getD, List.getElem?_eq_getElem h]; rfl
 rw [e]
 exact List.getElem_map ..
def full (L : List (List Nat)) : List (List Nat) := L.filter fun l => !l.isEmpty
theorem full_flatten (L : List (List Nat)) : (full L).flatten = L.flatten := by
 induction L with
 | nil => rfl
 | cons a L ih =>
   unfold full at ih ⊢
   cases a with
   | nil => simpa using ih
   | cons x t => simp [ih]
section
variable {n : Nat} {l : List Ed} {r : List (List Int)}
theorem gl_ge {r : List (List Int)} {row : List Int} (h : row ∈ r) : ∃ v, v < r.length ∧ gl r v = row := by
 obtain ⟨v, hv, rfl⟩ := List.getElem_of_mem h
 exact ⟨v, hv, by unfold gl; rw [List.getD_eq_getElem?_getD, List.getElem?_eq_getElem hv]; rfl⟩
theorem gi_get0 {l : List Int} {i : Nat} (h : i < l.length) : gi l i = l[i] := by unfold gi; rw [List.getD_eq_getElem?_getD, List.getElem?_eq_getElem h]; rfl
theorem IsMap.row_at (hm : IsMap n l r) {v : Nat} (hv : v < n) {h : Nat} : h ∈ fN (gl r v) ↔ h < 2 * l.length ∧ gi (frs l) h = (v : Int) := by
 unfold fN
 rw [List.mem_map]
 have hfl := frs_length l
 constructor
 · rintro ⟨x, hx, rfl⟩
   obtain ⟨a, b, c⟩ := leaves_iff.1 ((hm.rot.mem v hv x).1 hx)
   exact ⟨by omega, c⟩
 · rintro ⟨a, b⟩
   exact ⟨(h : Int), (hm.rot.mem v hv _).2 (leaves_iff.2 ⟨by omega, by omega, by rw [Int.toNat_natCast]; exact b⟩), by simp⟩
theorem IsMap.row_nodup (hm : IsMap n l r) {v : Nat} (hv : v < n) : (fN (gl r v)).Nodup := by
 have h1 := hm.rot.nodup v hv
 unfold fN
 rw [List.Nodup, List.pairwise_map]
 refine List.Pairwise.imp_of_mem (fun {a b} ha hb hne e => hne ?_) h1
 have := (leaves_iff.1 ((hm.rot.mem v hv a).1 ha)).1
 have := (leaves_iff.1 ((hm.rot.mem v hv b).1 hb)).1
 omega
theorem IsMap.row_ring (hm : IsMap n l r) {v : Nat} (hv : v < n) (h0 : gl r v ≠ []) : Ring (nxf l r) (fN (gl r v)) := by
 have hx := (nxOf_next hm.rot).2
 refine ring_of_mod (by unfold fN; simpa using h0) (fun j hj => ?_)
 have hl : (fN (gl r v)).length = (gl r v).length := by unfold fN; simp
 have := hx v (by rw [hm.rot.len]; exact hv) j (by omega)
 rw [hl, fN_getD, fN_getD]
 unfold nxf
 rw [this]
theorem IsMap.rows_flat (hm : IsMap n l r) : (rowsN r).flatten.Nodup ∧ ∀ h, h ∈ (rowsN r).flatten ↔ h < 2 * l.length := by
 have hlen := hm.rot.len
 constructor
 · rw [List.Nodup, List.pairwise_flatten]
   constructor
   · intro L hL
     obtain ⟨row, hrow, rfl⟩ := List.mem_map.1 hL
     obtain ⟨v, hv, rfl⟩ := gl_ge hrow
     exact hm.row_nodup (by omega)
   · rw [List.pairwise_iff_getElem]
     intro i j hi hj hij x hx y hy e
     subst e
     have hi2 : i < r.length := by simpa [rowsN] using hi
     have hj2 : j < r.length := by simpa [rowsN] using hj
     have e1 : (rowsN r)[i] = fN (gl r i) := rowsN_get hi2
     have e2 : (rowsN r)[j] = fN (gl r j) := rowsN_get hj2
     rw [e1] at hx
     rw [e2] at hy
     have h1 := (hm.row_at (by omega)).1 hx
     have h2 := (hm.row_at (by omega)).1 hy
     have : ((i : Int)) = (j : Int) := h1.2.symm.trans h2.2
     omega
 · intro h
   rw [List.mem_flatten]
   constructor
   · rintro ⟨L, hL, hh⟩
     obtain ⟨row, hrow, rfl⟩ := List.mem_map.1 hL
     obtain ⟨v, hv, rfl⟩ := gl_ge hrow
     exact ((hm.row_at (by omega)).1 hh).1
   · intro hh
     have hf := frs_range hm.good hh
     obtain ⟨v, hv⟩ := Int.eq_ofNat_of_zero_le hf.1
     have hvn : v < n := by omega
     refine ⟨fN (gl r v), List.mem_map.2 ⟨gl r v, ?_, rfl⟩, (hm.row_at hvn).2 ⟨hh, hv⟩⟩
     unfold gl
     rw [List.getD_eq_getElem?_getD, List.getElem?_eq_getElem (by omega)]
     exact List.getElem_mem _
theorem IsMap.dec (hm : IsMap n l r) : Dec (nxf l r) (full (rowsN r)) ∧ (full (rowsN r)).flatten.Perm (List.range (2 * l.length)) := by
 obtain ⟨h1, h2⟩ := hm.rows_flat
 refine ⟨⟨fun L hL => ?_, by rw [full_flatten]; exact h1⟩, ?_⟩
 · unfold full at hL
   rw [List.mem_filter] at hL
   obtain ⟨row, hrow, rfl⟩ := List.mem_map.1 hL.1
   obtain ⟨v, hv, rfl⟩ := gl_ge hrow
   refine hm.row_ring (by have := hm.rot.len; omega) (fun e => ?_)
   rw [e] at hL
   simp [fN] at hL
 · rw [full_flatten]
   exact perm_of_same h1 List.nodup_range (fun x => by rw [h2, List.mem_range])
theorem IsMap.nxf_eq (hm : IsMap n l r) {h : Nat} (hh : h < 2 * l.length) : gi (nxOf l r) h = (nxf l r h : Int) := by
 have := next_in hm.rot (nxOf_next hm.rot) (frs_in hm.good) (x := h) (by rw [frs_length]; exact hh)
 unfold nxf
 omega
theorem twn_lt {h m : Nat} (hh : h < 2 * m) : twn h < 2 * m := by unfold twn; split <;> omega
theorem tw_twn {h : Nat} (hh : h ≤ 9000000) : Go.bits .xor .i64 (h : Int) 1 = (twn h : Int) := Seen.tw_nat hh
def stf (l : List Ed) (r : List (List Int)) : Nat → Nat := upTo (nxf l r) l.length
theorem stf_eq {h : Nat} (hh : h < 2 * l.length) : stf l r h = nxf l r (twn h) := if_pos hh
def stOf (l : List Ed) (r : List (List Int)) : List Int := (List.range (2 * l.length)).map fun h => gi (nxOf l r) (twn h)
theorem stOf_length : (stOf l r).length = 2 * l.length := by unfold stOf; simp
theorem gi_stOf {h : Nat} (hh : h < 2 * l.length) : gi (stOf l r) h = gi (nxOf l r) (twn h) := by
 unfold stOf gi
 simp [List.getD_eq_getElem?_getD, hh]
theorem IsMap.even (hm : IsMap n l r) : ∀ e, 2 * e ∈ (full (rowsN r)).flatten ↔ 2 * e + 1 ∈ (full (rowsN r)).flatten := by
 intro e
 rw [full_flatten, hm.rows_flat.2, hm.rows_flat.2]
 omega
theorem IsMap.steps (hm : IsMap n l r) : Face.Steps (stf l r) (stOf l r) := by
 obtain ⟨h1, h2⟩ := hm.dec
 obtain ⟨L', d1, d2, _⟩ := parity h1 hm.even l.length
 have hp := d2.trans h2
 have mem : ∀ i, i < 2 * l.length ↔ i ∈ L'.flatten := fun i => by rw [hp.mem_iff, List.mem_range]
 refine ⟨fun i hi => ?_, fun i hi => ?_, fun i j hi hj e => ?_⟩
 · rw [stOf_length] at hi
   rw [gi_stOf hi, hm.nxf_eq (twn_lt hi), stf_eq hi]
 · rw [stOf_length] at hi ⊢
   exact (mem _).2 (d1.closed ((mem i).1 hi))
 · rw [stOf_length] at hi hj
   exact d1.inj i ((mem i).1 hi) j ((mem j).1 hj) e
theorem IsMap.faces (hm : IsMap n l r) : ∃ F, facesL (stOf l r) = F.map zN ∧ Faces (stf l r) (2 * l.length) F := by
 have := facesL_spec hm.steps
 rw [stOf_length] at this
 exact this
end
end Go.Proofs.Ytmikcfddipldnaa.Rot
namespace Go.Proofs.Ytmikcfddipldnaa.Rot
open Go.RowKit Go.Proofs.YtmikcfddipldnaaW.PrintWords Go.Proofs.YtmikcfddipldnaaW.PrintLast Go.Proofs.YtmikcfddipldnaaW.PrintMore Go.Proofs.Ytmikcfddipldnaa.GAll Go.Proofs.Ytmikcfddipldnaa.Mem Go.Proofs.Ytmikcfddipldnaa.Ring Go.Proofs.Ytmikcfddipldnaa.Face
set_option linter.unusedVariables false
set_option linter.unusedSimpArgs false
theorem wad {i : Nat} (h : i ≤ 900000000) : wrap64 ((i : Int) + 1) = ((i + 1 : Nat) : Int) := by rw [IntWalk.wrap64_in _ (by omega)]; omega
section
variable {n : Nat} {l : List Ed} {r : List (List Int)}
theorem goFace_go {st : List Int} {m : Nat} {T : List Bool} {fc : List Int} {k : Int} (h : gb T k.toNat = false) : goFace st (m + 1) T fc k = goFace st m (T.set k.toNat true) (fc ++ [k]) (gi st k.toNat) := by
 conv => lhs; unfold goFace
 rw [if_neg (by rw [h]; simp)]
theorem goFace_stop {st : List Int} {m : Nat} {T : List Bool} {fc : List Int} {k : Int} (h : gb T k.toNat = true) : goFace st m T fc k = (T, fc) := by
 cases m with
 | zero => rfl
 | succ m =>
   conv => lhs; unfold goFace
   rw [if_pos h]
theorem gi_ge {st : List Int} {m : Nat} : ∀ (T : List Bool) (fc : List Int) (k : Int), fc.length ≤ (goFace st m T fc k).2.length := by
 induction m with
 | zero => intro T fc k; exact Nat.le_refl _
 | succ m ih =>
   intro T fc k
   unfold goFace
   split
   · exact Nat.le_refl _
   · have := ih (T.set k.toNat true) (fc ++ [k]) (gi st k.toNat)
     simp at this; omega
theorem walk_ev (hm : IsMap n l r) {out : List (List Int)} {h : Nat} {res : List (List Int) × Int} (ho : out.length ≤ 8388608) (hh : h < 2 * l.length) :
   ∀ (m : Nat) (T : List Bool) (fc : List Int) (k : Nat), T.length = 2 * l.length → left T ≤ m → k < 2 * l.length → fc.length + m ≤ 2 * l.length →
     Ev (fun q => faces_Of.l0 q (nxOf l r) (goFace (stOf l r) m T fc (k : Int)).1 (if 0 < (goFace (stOf l r) m T fc (k : Int)).2.length then out ++ [(goFace (stOf l r) m T fc (k : Int)).2] else out) ((nxOf l r).length : Int) ((h + 1 : Nat) : Int)) res →
     Ev (fun q => faces_Of.l1 q (nxOf l r) T out fc (k : Int) ((nxOf l r).length : Int) (h : Int)) res := by
 have hll := hm.good.2.2.1
 have hlen := hm.len
 have key : ∀ (m : Nat) (T : List Bool) (fc : List Int) (k : Nat), T.length = 2 * l.length → k < 2 * l.length → gb T k = true → Ev (fun q => faces_Of.l0 q (nxOf l r) (goFace (stOf l r) m T fc (k : Int)).1 (if 0 < (goFace (stOf l r) m T fc (k : Int)).2.length then out ++ [(goFace (stOf l r) m T fc (k : Int)).2] else out) ((nxOf l r).length : Int) ((h + 1 : Nat) : Int)) res →
     Ev (fun q => faces_Of.l1 q (nxOf l r) T out fc (k : Int) ((nxOf l r).length : Int) (h : Int)) res := by
   intro m T fc k hT hk hg H
   rw [goFace_stop (by rw [Int.toNat_natCast]; exact hg)] at H
   refine Ev.step (fun q => ?_) H
   simp only [faces_Of.l1]
   change (if 0 ≤ (k : Int) then (if (k : Int) < (T.length : Int) then (if gb T ((k : Int).toNat) = true then _ else _) else _) else _) = _
   rw [if_pos (by omega), if_pos (by omega), Int.toNat_natCast, if_pos hg, wad (by omega)]
   by_cases c : 0 < fc.length
   · rw [if_pos (by omega), if_pos (by omega), if_pos c]
   · rw [if_neg (by omega), if_neg c]
 intro m
 induction m with
 | zero =>
   intro T fc k hT hl hk hf H
   exact key 0 T fc k hT hk (left_zero (by omega) (by omega)) H
 | succ m ih =>
   intro T fc k hT hl hk hf H
   cases hg : gb T k with
   | true => exact key (m + 1) T fc k hT hk hg H
   | false =>
     rw [goFace_go (by rw [Int.toNat_natCast]; exact hg), Int.toNat_natCast, gi_stOf hk, hm.nxf_eq (twn_lt hk)] at H
     have hls := left_set T k (by omega) hg
     have hin := hm.steps.inn k (by rw [stOf_length]; exact hk)
     rw [stOf_length, stf_eq hk] at hin
     refine Ev.step (fun q => ?_) (ih (T.set k true) (fc ++ [(k : Int)]) (nxf l r (twn k)) (by rw [List.length_set]; exact hT) (by omega) hin (by simp; omega) H)
     have ht := tw_twn (h := k) (by omega)
     have htl := twn_lt hk
     simp only [faces_Of.l1]
     change (if 0 ≤ (k : Int) then (if (k : Int) < (T.length : Int) then (if gb T ((k : Int).toNat) = true then _ else _) else _) else _) = _
     rw [if_pos (by omega), if_pos (by omega), Int.toNat_natCast, if_neg (by rw [hg]; simp), if_pos (by omega), ht, if_pos (by omega), if_pos (by omega), gi_rd, hm.nxf_eq htl]
theorem of_loop (hm : IsMap n l r) (d : Nat) : ∀ h : Nat, h + d = 2 * l.length → Ev (fun q => faces_Of.l0 q (nxOf l r) (facesTo (stOf l r) (2 * l.length) h).1 (facesTo (stOf l r) (2 * l.length) h).2 ((nxOf l r).length : Int) (h : Int)) (facesL (stOf l r), 0) := by
 have hll := hm.good.2.2.1
 have hlen := hm.len
 induction d with
 | zero =>
   intro h hh
   obtain rfl : h = 2 * l.length := by omega
   refine Ev.step (f := fun _ => some (facesL (stOf l r), 0)) (fun q => ?_) (Ev.now _)
   simp only [faces_Of.l0]
   rw [if_neg (by omega)]
   unfold facesL
   rw [stOf_length]
 | succ d ih =>
   intro h hh
   have H := ih (h + 1) (by omega)
   obtain ⟨f1, f2⟩ := facesTo_len (stOf l r) (2 * l.length) h
   refine Ev.step (fun q => ?_) (walk_ev hm (out := (facesTo (stOf l r) (2 * l.length) h).2) (h := h) (res := (facesL (stOf l r), 0)) (by omega) (by omega) (2 * l.length) (facesTo (stOf l r) (2 * l.length) h).1 [] h f1 (by have := left_le (facesTo (stOf l r) (2 * l.length) h).1; omega) (by omega) (by simp) ?_)
   · simp only [faces_Of.l0]
     rw [if_pos (by omega)]
   · unfold facesTo at H
     cases hg : gb (facesTo (stOf l r) (2 * l.length) h).1 h with
     | true =>
       rw [if_pos hg] at H
       rw [goFace_stop (by rw [Int.toNat_natCast]; exact hg)]
       simpa using H
     | false =>
       rw [if_neg (by rw [hg]; simp)] at H
       obtain ⟨m, hmm⟩ : ∃ m, 2 * l.length = m + 1 := ⟨2 * l.length - 1, by omega⟩
       have hp : 0 < (goFace (stOf l r) (2 * l.length) (facesTo (stOf l r) (2 * l.length) h).1 [] (h : Int)).2.length := by
         generalize (facesTo (stOf l r) (2 * l.length) h).1 = T at hg
         rw [hmm, goFace_go (by rw [Int.toNat_natCast]; exact hg)]
         have := gi_ge (st := stOf l r) (m := m) (T.set ((h : Int).toNat) true) ([] ++ [(h : Int)]) (gi (stOf l r) ((h : Int).toNat))
         simp at this ⊢; omega
       rw [if_pos hp]
       exact H
theorem next_bad {v e : Int} {a : Int} (he : e ≠ 0) (h : Ev (fun k => rot_Check.f k a l r) (v, e)) : Ev (fun k => rot_Next.f k a l r) ([], e) := by
 unfold rot_Next.f
 exact Ev.bind h (Ev.congr (fun k => if_neg he) (Ev.now _))
theorem of_bad {v e : Int} {a : Int} (he : e ≠ 0) (h : Ev (fun k => rot_Check.f k a l r) (v, e)) : Ev (fun k => faces_Of.f k a l r) ([], e) := by
 unfold faces_Of.f
 exact Ev.bind (next_bad he h) (Ev.congr (fun k => if_neg he) (Ev.now _))
theorem of_ok (hm : IsMap n l r) (h : Ev (fun k => rot_Check.f k (n : Int) l r) (0, 0)) : Ev (fun k => faces_Of.f k (n : Int) l r) (facesL (stOf l r), 0) := by
 have hlen := hm.len
 have hll := hm.good.2.2.1
 have H := of_loop hm (2 * l.length) 0 (by omega)
 unfold faces_Of.f
 refine Ev.bind (next_ev hm h) (Ev.congr (fun k => ?_) H)
 simp only
 rw [if_pos trivial, if_pos (by omega), if_pos (by omega)]
 show faces_Of.l0 k _ (List.replicate ((nxOf l r).length : Int).toNat false) [] _ 0 = _
 rw [Int.toNat_natCast, hlen]
 rfl
theorem faces_mem (hm : IsMap n l r) {F : List (List Nat)} (hF : Faces (stf l r) (2 * l.length) F) {L : List Nat} (hL : L ∈ F) : ∀ x ∈ L, x < 2 * l.length := fun x hx => by
 have := hF.perm.mem_iff.1 (List.mem_flatten.2 ⟨L, hL, hx⟩)
 rwa [List.mem_range] at this
theorem len_le_flat : ∀ (F : List (List Nat)), (∀ L ∈ F, L ≠ []) → F.length ≤ F.flatten.length
 | [], _ => Nat.le_refl _
 | L :: F, h => by
   have ih := len_le_flat F (fun M hM => h M (List.mem_cons_of_mem _ hM))
   have := List.length_pos_iff.2 (h L (List.mem_cons_self ..))
   rw [List.flatten_cons, List.length_append, List.length_cons]; omega
theorem one_le_flat {F : List (List Nat)} {L : List Nat} (h : L ∈ F) : L.length ≤ F.flatten.length := by
 obtain ⟨s, t, rfl⟩ := List.append_of_mem h
 simp; omega
theorem IsMap.small (hm : IsMap n l r) {F : List (List Nat)} (hF : Faces (stf l r) (2 * l.length) F) : F.length ≤ 2 * l.length ∧ ∀ L ∈ F, L.length ≤ 2 * l.length := by
 have h1 := hF.perm.length_eq
 rw [List.length_range] at h1
 exact ⟨by rw [← h1]; exact len_le_flat F (fun L hL => (hF.dec.ring L hL).1), fun L hL => by rw [← h1]; exact one_le_flat hL⟩
theorem IsMap.fitL (hm : IsMap n l r) : Face.fitL (facesL (stOf l r)) l.length = true := by
 obtain ⟨F, e, hF⟩ := hm.faces
 obtain ⟨s1, s2⟩ := hm.small hF
 have hll := hm.good.2.2.1
 rw [e]
 unfold Face.fitL
 simp only [Bool.and_eq_true, decide_eq_true_eq, List.all_eq_true, List.length_map]
 refine ⟨hll, by omega, fun row hrow => ?_⟩
 obtain ⟨L, hL, rfl⟩ := List.mem_map.1 hrow
 have := s2 L hL
 refine ⟨by unfold zN; rw [List.length_map]; omega, fun x hx => ?_⟩
 obtain ⟨y, hy, rfl⟩ := List.mem_map.1 hx
 have := faces_mem hm hF hL y hy
 omega
theorem left_ok (hm : IsMap n l r) (h : Ev (fun k => rot_Check.f k (n : Int) l r) (0, 0)) : Ev (fun k => faces_Left.f k (n : Int) l r) (leftL (facesL (stOf l r)) (2 * l.length), 0) := by
 unfold faces_Left.f
 exact Ev.bind (of_ok hm h) (Ev.congr (fun k => if_pos rfl) (Ev.congr (fun k => if_pos hm.fitL) (Ev.now _)))
theorem left_bad {v e : Int} {a : Int} (he : e ≠ 0) (h : Ev (fun k => rot_Check.f k a l r) (v, e)) : Ev (fun k => faces_Left.f k a l r) ([], e) := by
 unfold faces_Left.f
 exact Ev.bind (of_bad he h) (Ev.congr (fun k => if_neg he) (Ev.now _))
end
theorem IsMap.lists {n : Nat} {l : List Ed} {r : List (List Int)} (hm : IsMap n l r) : (facesL (stOf l r)).length ≤ 8388608 ∧ ∀ x ∈ facesL (stOf l r), x.length ≤ 8388608 := by
 obtain ⟨F, e, hF⟩ := hm.faces
 obtain ⟨s1, s2⟩ := hm.small hF
 have hll := hm.good.2.2.1
 rw [e]
 refine ⟨by rw [List.length_map]; omega, fun x hx => ?_⟩
 obtain ⟨L, hL, rfl⟩ := List.mem_map.1 hx
 have := s2 L hL
 unfold zN
 rw [List.length_map]; omega
end Go.Proofs.Ytmikcfddipldnaa.Rot
namespace Go.Proofs.Ytmikcfddipldnaa.Sets
open Go.RowKit Go.Proofs.YtmikcfddipldnaaW.PrintWords Go.Proofs.YtmikcfddipldnaaW.PrintLast Go.Proofs.YtmikcfddipldnaaW.PrintMore
set_option linter.unusedVariables false
set_option linter.unusedSimpArgs false
def ints (l : List Nat) : List Int := l.map fun (x : Nat) => (x : Int)
theorem iv_encs (l : List Nat) : iv l = encs (Value.int .i64) (ints l) := by simp [iv, encs, ints, Function.comp_def]
theorem GRows.rows {w : World} {B bo base : Nat} {vs : List Value} {gs : List (List Nat)} {ok : Nat → Prop} (h : GRows w B bo vs gs) (hb : base ≤ bo) (hl : gs.length ≤ 9223372036854775807) (hok : ∀ k, base ≤ k → ok k) :
   Kd.R (Kd.slice 3 (Kd.int .i64)) 36 w base ok (.slice (some ⟨bo, 0, none⟩) gs.length gs.length) (gs.map ints) := by
 have hlt := h.lt
 have hsz : (Kd.slice 3 (Kd.int .i64)).sz = 1 := rfl
 refine ⟨fun k hk => hok k (by have : bo = k := by simpa [Value.ownBlock] using hk
                               omega), vs, ⟨by simp [h.len, hsz], .inr ⟨bo, gs.length, vs.toArray, by simp, hb, h.out, by simp, by unfold maxLen; simpa using hl, by simp [h.len, hsz], ?_⟩⟩, by simp [h.len, hsz], fun j p hj => ?_⟩
 · simp [List.take_of_length_le, h.len, hsz]
 · rw [List.getElem?_map] at hj
   obtain ⟨g, hg, rfl⟩ := Option.map_eq_some_iff.1 hj
   have hj2 : j < gs.length := (List.getElem?_eq_some_iff.1 hg).1
   have e1 : gl gs j = g := by unfold gl; rw [List.getD_eq_getElem?_getD, hg]; rfl
   have e2 : (vs.drop (j * 1)).take 1 = [va vs j] := by
     rw [Nat.mul_one, List.drop_eq_getElem_cons (by rw [h.len]; exact hj2), List.take_succ_cons, List.take_zero]
     simp [va, List.getD_eq_getElem?_getD, h.len, hj2]
   refine ⟨va vs j, e2, Kd.R_of_own ?_ (fun k hk => ?_)⟩
   · have := own_weaken (h.own j hj2) (show base ≤ B by omega)
     rw [iv_encs, e1] at this
     rw [show (ints g).length = g.length by simp [ints]]
     exact this
   · have := own_lt (h.own j hj2) hk
     refine ⟨hok k (by omega), fun e => ?_⟩
     have : k = bo := by simpa [Value.ownBlock] using e
     omega
def Sub (n : Nat) (es : List (Int × Int)) (m : List Nat) : Prop := ∃ E, Part n E m ∧ ∀ a b, E a b → Conn (EP n es) a b
theorem Sub.start (n : Nat) (es : List (Int × Int)) : Sub n es (List.range n) := ⟨_, Part.range n, fun _ _ h => h.elim⟩
theorem pe_mem {es : List (Int × Int)} {k : Nat} (h : k < es.length) : pe es k ∈ es := by
 unfold pe; rw [List.getD_eq_getElem?_getD, List.getElem?_eq_getElem h]; exact List.getElem_mem h
def Cov (n : Nat) (es : List (Int × Int)) (i : Nat) (m : List Nat) : Prop := ∃ E, Part n E m ∧ (∀ a b, E a b → Conn (EP n es) a b) ∧ ∀ j, i ≤ j → j < es.length → ∀ a b : Nat, a < n → b < n → pe es j = ((a : Int), (b : Int)) → Conn E a b
theorem mem_pe {es : List (Int × Int)} {x : Int × Int} (h : x ∈ es) : ∃ j, j < es.length ∧ pe es j = x := by
 obtain ⟨j, hj, rfl⟩ := List.mem_iff_getElem.1 h
 exact ⟨j, hj, by unfold pe; rw [List.getD_eq_getElem?_getD, List.getElem?_eq_getElem hj]; rfl⟩
theorem Cov.all {n : Nat} {es : List (Int × Int)} {m : List Nat} (h : Cov n es 0 m) : m = joinAll (List.range n) es := by
 obtain ⟨E, h1, h2, h3⟩ := h
 refine h1.unique (joinAll_part n es) h2 ?_
 rintro a b ⟨ha, hb, hm⟩
 obtain ⟨j, hj, hp⟩ := mem_pe hm
 exact h3 j (by omega) hj a b ha hb hp
def yesTo (m : List Nat) (es : List (Int × Int)) : Nat → Nat
 | 0 => 0
 | k + 1 => yesTo m es k + if (joinOf (joinAll m (es.take k)) (pe es k).1 (pe es k).2).2 = true then 1 else 0
theorem sets_yes (n : Nat) (es : List (Int × Int)) : ∀ k, k ≤ es.length → sets (joinAll (List.range n) (es.take k)) + yesTo (List.range n) es k = n := by
 intro k
 induction k with
 | zero => intro _; simp [joinAll, yesTo, sets_range]
 | succ k ih =>
   intro hk
   have h1 := ih (by omega)
   have h2 := sets_join (joinAll_part n (es.take k)) (pe es k).1 (pe es k).2
   rw [joinAll_take _ _ (by omega)]
   unfold yesTo
   omega
theorem numTo_sets {n : Nat} {E : Nat → Nat → Prop} {m : List Nat} (h : Part n E m) : ∀ k, k ≤ n → (numTo m k).2 = (List.range k).countP fun i => gt m i == i := by
 intro k
 induction k with
 | zero => intro _; rfl
 | succ k ih =>
   intro hk
   rw [List.range_succ, List.countP_append]
   have h1 := ih (by omega)
   have h2 := h.le k (by omega)
   unfold numTo
   by_cases c : gt m k < k
   · rw [if_pos c]
     simp [h1, show gt m k ≠ k by omega]
   · rw [if_neg c]
     simp [h1, show gt m k = k by omega]
theorem numTo_all {n : Nat} {E : Nat → Nat → Prop} {m : List Nat} (h : Part n E m) : (numTo m m.length).2 = sets m := by
 rw [h.len, numTo_sets h n (Nat.le_refl _)]
 unfold sets
 rw [h.len]
structure Two (w0 w : World) (p bP bS q bQ bT : Nat) (ms mt : List Nat) : Prop where
 s : At w p bP bS ms
 t : At w q bQ bT mt
 lo : w0.heap.size ≤ p ∧ w0.heap.size ≤ bP ∧ w0.heap.size ≤ bS ∧ w0.heap.size ≤ q ∧ w0.heap.size ≤ bQ ∧ w0.heap.size ≤ bT
 ap : p < q ∧ p < bQ ∧ p < bT ∧ bP < q ∧ bP < bQ ∧ bP < bT ∧ bS < q ∧ bS < bQ ∧ bS < bT
 old : Below w0.heap.size w0 w
def Own2 (p bP bS q bQ bT : Nat) (k : Nat) : Prop := Own p bP bS k ∨ Own q bQ bT k
theorem At.frame {w w' : World} {p bP bS : Nat} {m : List Nat} {S : Nat → Prop} (h : At w p bP bS m) (f : Frame S w w') (hs : ∀ k, Own p bP bS k → ¬ S k) : At w' p bP bS m := by
 obtain ⟨P, S', h⟩ := h
 exact ⟨P, S', f.blk h.obj (hs _ (.inl rfl)), f.blk h.par (hs _ (.inr (.inl rfl))), f.blk h.siz (hs _ (.inr (.inr rfl))), h.ne1, h.ne2, h.ne3, h.small, h.rep, h.sized⟩
theorem At.hi {w : World} {p bP bS : Nat} {m : List Nat} (h : At w p bP bS m) : p < w.heap.size ∧ bP < w.heap.size ∧ bS < w.heap.size := by
 obtain ⟨P, S', h⟩ := h
 exact ⟨blk_lt h.obj, blk_lt h.par, blk_lt h.siz⟩
section
variable {w0 w w' : World} {p bP bS q bQ bT : Nat} {ms mt : List Nat}
theorem Two.alloc (h : Two w0 w p bP bS q bQ bT ms mt) (o : Obj) : Two w0 (w.alloc o) p bP bS q bQ bT ms mt := by
 have f : Frame (fun _ => False) w (w.alloc o) := (Frame.refl _ w).alloc o
 exact ⟨h.s.frame f (fun _ _ e => e), h.t.frame f (fun _ _ e => e), h.lo, h.ap, h.old.alloc (by exact h.old.size) o⟩
theorem Two.put (h : Two w0 w p bP bS q bQ bT ms mt) {b i : Nat} (u : Value) (hb : w0.heap.size ≤ b) (hn : ¬ Own2 p bP bS q bQ bT b) : Two w0 (w.setCell ⟨b, i, none⟩ u) p bP bS q bQ bT ms mt := by
 have f : Frame (· = b) w (w.setCell ⟨b, i, none⟩ u) := Frame.setCell (S := (· = b)) (p := ⟨b, i, none⟩) (Frame.refl _ w) rfl u
 exact ⟨h.s.frame f (fun k hk e => hn (.inl (e ▸ hk))), h.t.frame f (fun k hk e => hn (.inr (e ▸ hk))), h.lo, h.ap, h.old.trans (f.below h.old.size (fun k hk => by omega))⟩
theorem Two.drawn (h : Two w0 w p bP bS q bQ bT ms mt) (n : Nat) : Two w0 (w.drewN n) p bP bS q bQ bT ms mt := by
 have f : Frame (fun _ => False) w (w.drewN n) := (Frame.refl _ w).drewN n
 exact ⟨h.s.frame f (fun _ _ e => e), h.t.frame f (fun _ _ e => e), h.lo, h.ap, h.old.trans (f.below h.old.size (fun k hk => hk.elim))⟩
theorem Two.drew (h : Two w0 w p bP bS q bQ bT ms mt) : Two w0 w.drew p bP bS q bQ bT ms mt := by
 have f : Frame (fun _ => False) w w.drew := (Frame.refl _ w).drew
 exact ⟨h.s.frame f (fun _ _ e => e), h.t.frame f (fun _ _ e => e), h.lo, h.ap, h.old.trans (f.below h.old.size (fun k hk => hk.elim))⟩
theorem Two.below (h : Two w0 w p bP bS q bQ bT ms mt) (hb : Below w.heap.size w w') : Two w0 w' p bP bS q bQ bT ms mt := by
 have h1 := h.s.hi
 have h2 := h.t.hi
 have f : Frame (fun k => w.heap.size ≤ k) w w' := ⟨hb.os, hb.tape, hb.output, hb.size, fun i hi _ => hb.block i hi⟩
 exact ⟨h.s.frame f (fun k hk e => by unfold Own at hk; omega), h.t.frame f (fun k hk e => by unfold Own at hk; omega), h.lo, h.ap, h.old.trans (hb.mono h.old.size)⟩
end
end Go.Proofs.Ytmikcfddipldnaa.Sets
namespace Go.Proofs.Ytmikcfddipldnaa.PureR
open Go.RowKit Go.Proofs.YtmikcfddipldnaaW.PrintWords Go.Proofs.YtmikcfddipldnaaW.PrintLast Go.Proofs.YtmikcfddipldnaaW.PrintMore Go.Proofs.Ytmikcfddipldnaa.Sets
set_option linter.unusedVariables false
set_option linter.unusedSimpArgs false
theorem wadd {i n : Nat} (h : i < n) (hn : n ≤ 9000000) : wrap64 ((i : Int) + 1) = ((i + 1 : Nat) : Int) := by rw [IntWalk.wrap64_in _ (by omega)]; omega
def roots (m : List Nat) (i : Nat) : Nat := (List.range i).countP fun j => gt m j == j
theorem roots_succ (m : List Nat) (i : Nat) : roots m (i + 1) = roots m i + if gt m i = i then 1 else 0 := by
 unfold roots
 rw [List.range_succ, List.countP_append]
 by_cases h : gt m i = i <;> simp [h]
section
variable {n : Nat} {E : Nat → Nat → Prop} {m : List Nat}
theorem num_at (h : Part n E m) : ∀ k, k ≤ n → ∀ a, a < k → gt (numTo m k).1 a = roots m (gt m a) := by
 intro k
 induction k with
 | zero => intro _ a ha; omega
 | succ k ih =>
   intro hk a ha
   have hl := numTo_length m k
   have hle := h.le k (by omega)
   have hcn := numTo_sets h k (by omega)
   unfold numTo
   by_cases c : gt m k < k
   · rw [if_pos c]
     rcases Nat.lt_or_ge a k with h1 | h1
     · rw [gt_snoc_lt (by omega), ih (by omega) a h1]
     · obtain rfl : a = k := by omega
       rw [gt_snoc_eq (by omega), ih (by omega) _ c, h.idem (by omega)]
   · rw [if_neg c]
     rcases Nat.lt_or_ge a k with h1 | h1
     · rw [gt_snoc_lt (by omega), ih (by omega) a h1]
     · obtain rfl : a = k := by omega
       rw [gt_snoc_eq (by omega), hcn, show gt m a = a by omega]
       rfl
theorem roots_mono (m : List Nat) {a b : Nat} (h : a ≤ b) : roots m a ≤ roots m b := by
 induction b with
 | zero => obtain rfl : a = 0 := by omega
           exact Nat.le_refl _
 | succ b ih =>
   rcases Nat.lt_or_ge a (b + 1) with h1 | h1
   · have := ih (by omega)
     rw [roots_succ]; omega
   · obtain rfl : a = b + 1 := by omega
     exact Nat.le_refl _
theorem roots_inj (m : List Nat) {a b : Nat} (ha : gt m a = a) (hb : gt m b = b) (h : roots m a = roots m b) : a = b := by
 rcases Nat.lt_trichotomy a b with c | c | c
 · have h1 := roots_mono m (show a + 1 ≤ b by omega)
   rw [roots_succ, if_pos ha] at h1; omega
 · exact c
 · have h1 := roots_mono m (show b + 1 ≤ a by omega)
   rw [roots_succ, if_pos hb] at h1; omega
theorem roots_lt {i : Nat} (hi : i < n) (hr : gt m i = i) : roots m i < roots m n := by
 have h1 := roots_mono m (show i + 1 ≤ n by omega)
 rw [roots_succ, if_pos hr] at h1; omega
end
end Go.Proofs.Ytmikcfddipldnaa.PureR
namespace Go.Proofs.Ytmikcfddipldnaa.Rot
open Go.RowKit Go.Proofs.YtmikcfddipldnaaW.PrintWords Go.Proofs.YtmikcfddipldnaaW.PrintLast Go.Proofs.YtmikcfddipldnaaW.PrintMore Go.Proofs.Ytmikcfddipldnaa.GAll Go.Proofs.Ytmikcfddipldnaa.Mem Go.Proofs.Ytmikcfddipldnaa.Ring Go.Proofs.Ytmikcfddipldnaa.Face
set_option linter.unusedVariables false
set_option linter.unusedSimpArgs false
def parT (n : Nat) (l : List Ed) (t : Nat) : List Nat := Sets.joinAll (List.range n) ((ends l).take t)
section
variable {n : Nat} {l : List Ed} {r : List (List Int)}
theorem parT_part (n : Nat) (l : List Ed) (t : Nat) : Sets.Part n (Sets.EP n ((ends l).take t)) (parT n l t) := Sets.joinAll_part n _
theorem ends_in (hg : PureV.Good (n : Int) l) {t : Nat} (ht : t < l.length) : ∃ u v : Nat, (Sets.pe (ends l) t) = ((u : Int), (v : Int)) ∧ u < n ∧ v < n ∧ u ≠ v ∧ gi (frs l) (2 * t) = (u : Int) ∧ gi (frs l) (2 * t + 1) = (v : Int) := by
 obtain ⟨⟨a, b, c⟩, _⟩ := hg.2.2.2 t ht
 have e : Sets.pe (ends l) t = ((PureV.rdE l (t : Nat)).f0, (PureV.rdE l (t : Nat)).f1) := pe_ends ht
 refine ⟨(PureV.rdE l (t : Nat)).f0.toNat, (PureV.rdE l (t : Nat)).f1.toNat, ?_, by omega, by omega, by omega, ?_, ?_⟩
 · rw [e, Int.toNat_of_nonneg (by omega), Int.toNat_of_nonneg (by omega)]
 · rw [frs_even ht, Int.toNat_of_nonneg (by omega)]
 · rw [frs_odd ht, Int.toNat_of_nonneg (by omega)]
theorem parT_succ (n : Nat) (l : List Ed) {t : Nat} (ht : t < l.length) : parT n l (t + 1) = (Sets.joinOf (parT n l t) (Sets.pe (ends l) t).1 (Sets.pe (ends l) t).2).1 := Sets.joinAll_take _ _ (by rw [ends_length]; exact ht)
theorem bound (hm : IsMap n l r) : ∀ t, t ≤ l.length → ∃ L', Dec (upTo (nxf l r) t) L' ∧ L'.flatten.Perm (full (rowsN r)).flatten ∧ Within (fun h => Sets.gt (parT n l t) (gi (frs l) h).toNat) L' ∧ L'.length + 2 * n ≤ (full (rowsN r)).length + t + 2 * Sets.sets (parT n l t)
 | 0, _ => by
   refine ⟨full (rowsN r), by rw [upTo_zero]; exact hm.dec.1, List.Perm.refl _, fun L hL x hx y hy => ?_, ?_⟩
   · unfold full at hL
     rw [List.mem_filter] at hL
     obtain ⟨row, hrow, rfl⟩ := List.mem_map.1 hL.1
     obtain ⟨v, hv, rfl⟩ := gl_ge hrow
     have hvn : v < n := by have := hm.rot.len; omega
     have h1 := (hm.row_at hvn).1 hx
     have h2 := (hm.row_at hvn).1 hy
     simp only [h1.2, h2.2]
   · have e : Sets.sets (parT n l 0) = n := by
       have h := (Sets.sets_yes n (ends l) 0 (Nat.zero_le _))
       have h2 : Sets.yesTo (List.range n) (ends l) 0 = 0 := rfl
       rw [h2] at h
       exact h
     rw [e]; omega
 | t + 1, ht => by
   obtain ⟨L1, d1, d2, d3, d4⟩ := bound hm t (by omega)
   obtain ⟨u, v, epe, hu, hv, huv, e1, e2⟩ := ends_in hm.good (t := t) (by omega)
   have hP := parT_part n l t
   have hs := Sets.sets_join hP (Sets.pe (ends l) t).1 (Sets.pe (ends l) t).2
   have hsu := parT_succ n l (t := t) (by omega)
   rw [epe] at hs hsu
   simp only at hs hsu
   have ha : 2 * t ∈ L1.flatten := by rw [d2.mem_iff, full_flatten, hm.rows_flat.2]; omega
   have hb : 2 * t + 1 ∈ L1.flatten := by rw [d2.mem_iff, full_flatten, hm.rows_flat.2]; omega
   obtain ⟨L2, k1, k2, k3, k4⟩ := d1.swap (g := upTo (nxf l r) (t + 1)) ha hb (by omega) (upTo_a _ t) (upTo_b _ t) (upTo_other _ t)
   have hlen := hP.len
   by_cases c : Sets.gt (parT n l t) u = Sets.gt (parT n l t) v
   · rw [Sets.joinOf_same c] at hs hsu
     simp only [Bool.false_eq_true, if_false, Nat.add_zero] at hs hsu
     rw [hsu]
     refine ⟨L2, k1, k2.trans d2, k3 _ ?_ d3, ?_⟩
     · simp only [e1, e2, Int.toNat_natCast]; exact c
     · rcases k4 with ⟨k4, _⟩ | k4 <;> omega
   · have ej := Sets.joinOf_two (m := parT n l t) (a := u) (b := v) (by omega) (by omega) c
     rw [ej] at hs hsu
     simp only [if_true] at hs hsu
     have hno : L2.length + 1 = L1.length := by
       rcases k4 with ⟨_, q, hq, q1, q2⟩ | k4
       · have := d3 q hq (2 * t) q1 (2 * t + 1) q2
         simp only [e1, e2, Int.toNat_natCast] at this
         exact absurd this c
       · exact k4
     have hgl : ∀ i, i < n → Sets.gt (parT n l (t + 1)) i = if Sets.gt (parT n l t) i = max (Sets.gt (parT n l t) u) (Sets.gt (parT n l t) v) then min (Sets.gt (parT n l t) u) (Sets.gt (parT n l t) v) else Sets.gt (parT n l t) i := fun i hi => by
       rw [hsu]; exact Sets.glue_get _ _ _ (by omega)
     have hin : ∀ x, x ∈ L1.flatten → (gi (frs l) x).toNat < n := fun x hx => by
       rw [d2.mem_iff, full_flatten, hm.rows_flat.2] at hx
       have := frs_range hm.good hx
       omega
     refine ⟨L2, k1, k2.trans d2, k3 _ ?_ (fun q hq x hx y hy => ?_), ?_⟩
     · simp only [e1, e2, Int.toNat_natCast]
       rw [hgl u hu, hgl v hv]
       rcases Nat.le_total (Sets.gt (parT n l t) u) (Sets.gt (parT n l t) v) with q | q
       · rw [Nat.max_eq_right q, Nat.min_eq_left q, if_neg c, if_pos rfl]
       · rw [Nat.max_eq_left q, Nat.min_eq_right q, if_pos rfl, if_neg (fun e => c e.symm)]
     · have h3 := d3 q hq x hx y hy
       simp only at h3 ⊢
       rw [hgl _ (hin x (List.mem_flatten.2 ⟨q, hq, hx⟩)), hgl _ (hin y (List.mem_flatten.2 ⟨q, hq, hy⟩)), h3]
     · rw [← hsu] at hs
       omega
def lone (r : List (List Int)) : Nat := r.countP fun row => row.isEmpty
theorem full_length (r : List (List Int)) : (full (rowsN r)).length + lone r = r.length := by
 unfold full rowsN lone
 rw [← List.countP_eq_length_filter, List.countP_map]
 have h := List.length_eq_countP_add_countP (fun row : List Int => row.isEmpty) (l := r)
 have e : List.countP ((fun l => !l.isEmpty) ∘ fN) r = List.countP (fun a => ¬ (a.isEmpty = true)) r := List.countP_congr fun x _ => by
   cases x <;> simp [fN]
 rw [e]
 omega
theorem parT_all (n : Nat) (l : List Ed) : parT n l l.length = Sets.joinAll (List.range n) (ends l) := by
 unfold parT
 rw [List.take_of_length_le (by rw [ends_length]; exact Nat.le_refl _)]
theorem faces_le (hm : IsMap n l r) {F : List (List Nat)} (hF : Faces (stf l r) (2 * l.length) F) : F.length + lone r + n ≤ l.length + 2 * Sets.sets (parT n l l.length) := by
 obtain ⟨L', d1, d2, _, d4⟩ := bound hm l.length (Nat.le_refl _)
 have h1 := full_length r
 rw [hm.rot.len] at h1
 have h2 := (Dec.unique (fun _ => ()) (fun _ _ _ => rfl) F L' hF.dec d1 (hF.perm.trans (d2.trans hm.dec.2).symm)).length_eq
 rw [List.length_map, List.length_map] at h2
 omega
theorem nth_class {f : Nat → Nat} {l : List Nat} {c : Nat → Nat} (h : Ring f l) (hc : ∀ x ∈ l, c (f x) = c x) {x : Nat} (hx : x ∈ l) : ∀ k, c (Ring.nth f x k) = c x
 | 0 => rfl
 | k + 1 => by
   show c (f (Ring.nth f x k)) = c x
   rw [hc _ (h.nth hx k), nth_class h hc hx k]
theorem ring_class {f : Nat → Nat} {l : List Nat} {c : Nat → Nat} (h : Ring f l) (hc : ∀ x ∈ l, c (f x) = c x) : ∀ x ∈ l, c x = c (l.headD 0) := by
 intro x hx
 cases l with
 | nil => cases hx
 | cons a t =>
   have h2 := ring_cons.1 h
   obtain ⟨k, rfl⟩ := lead_nth t a h2 x hx
   exact nth_class h hc (List.mem_cons_self ..) k
def pick (c : Nat → Nat) (k : Nat) (L : List (List Nat)) : List (List Nat) := L.filter fun l => c (l.headD 0) == k
theorem flatten_filter_sub (p : List Nat → Bool) : ∀ L : List (List Nat), (L.filter p).flatten.Sublist L.flatten
 | [] => List.Sublist.slnil
 | a :: L => by
   have ih := flatten_filter_sub p L
   rw [List.filter_cons]
   split
   · rw [List.flatten_cons, List.flatten_cons]
     exact (List.Sublist.refl a).append ih
   · rw [List.flatten_cons]
     exact ih.trans (List.sublist_append_right a _)
theorem pick_dec {f : Nat → Nat} {c : Nat → Nat} {k : Nat} {L : List (List Nat)} (h : Dec f L) : Dec f (pick c k L) := by
 refine ⟨fun l hl => h.ring l (List.mem_filter.1 hl).1, ?_⟩
 exact List.Nodup.sublist (flatten_filter_sub _ L) h.nodup
theorem pick_mem {f : Nat → Nat} {c : Nat → Nat} {k : Nat} {L : List (List Nat)} (h : Dec f L) (hc : ∀ x ∈ L.flatten, c (f x) = c x) (x : Nat) : x ∈ (pick c k L).flatten ↔ x ∈ L.flatten ∧ c x = k := by
 rw [List.mem_flatten, List.mem_flatten]
 constructor
 · rintro ⟨l, hl, hx⟩
   obtain ⟨h1, h2⟩ := List.mem_filter.1 hl
   refine ⟨⟨l, h1, hx⟩, ?_⟩
   rw [ring_class (h.ring l h1) (fun y hy => hc y (List.mem_flatten.2 ⟨l, h1, hy⟩)) x hx]
   simpa using h2
 · rintro ⟨⟨l, h1, hx⟩, h2⟩
   refine ⟨l, List.mem_filter.2 ⟨h1, ?_⟩, hx⟩
   rw [ring_class (h.ring l h1) (fun y hy => hc y (List.mem_flatten.2 ⟨l, h1, hy⟩)) x hx] at h2
   simpa using h2
structure Cls (n : Nat) (l : List Ed) (c : Nat → Nat) (cv : Nat → Nat) : Prop where
 half : ∀ h, h < 2 * l.length → c h = cv (gi (frs l) h).toNat
 edge : ∀ e, e < l.length → c (2 * e) = c (2 * e + 1)
theorem Cls.twn {c cv : Nat → Nat} (hc : Cls n l c cv) {h : Nat} (hh : h < 2 * l.length) : c (Ring.twn h) = c h := by
 unfold Ring.twn
 split
 · have e : h = 2 * (h / 2) := by omega
   have := hc.edge (h / 2) (by omega)
   rw [← e] at this
   exact this.symm
 · have e : h - 1 = 2 * (h / 2) := by omega
   have e2 : h = 2 * (h / 2) + 1 := by omega
   have := hc.edge (h / 2) (by omega)
   rw [← e2, ← e] at this
   exact this
theorem Cls.nxf {c cv : Nat → Nat} (hc : Cls n l c cv) (hm : IsMap n l r) {h : Nat} (hh : h < 2 * l.length) : c (Rot.nxf l r h) = c h := by
 have h1 := next_in hm.rot (nxOf_next hm.rot) (frs_in hm.good) (x := h) (by rw [frs_length]; exact hh)
 rw [frs_length, hm.nxf_eq hh, Int.toNat_natCast] at h1
 rw [hc.half _ (by omega), hc.half h hh, h1.2.2]
theorem Cls.stf {c cv : Nat → Nat} (hc : Cls n l c cv) (hm : IsMap n l r) {h : Nat} (hh : h < 2 * l.length) : c (Rot.stf l r h) = c h := by
 rw [stf_eq hh, hc.nxf hm (twn_lt hh), hc.twn hh]
theorem class_even (hm : IsMap n l r) {F : List (List Nat)} (hF : Faces (stf l r) (2 * l.length) F) {c cv : Nat → Nat} (hc : Cls n l c cv) (k : Nat) :
   ((pick c k F).length + (pick c k (full (rowsN r))).length + (List.range l.length).countP (fun e => c (2 * e) == k)) % 2 = 0 := by
 have hd := hm.dec
 have m1 : ∀ x, x ∈ (full (rowsN r)).flatten ↔ x < 2 * l.length := fun x => by rw [full_flatten, hm.rows_flat.2]
 have p1 := fun x => pick_mem (c := c) (k := k) hd.1 (fun x hx => hc.nxf hm ((m1 x).1 hx)) x
 obtain ⟨L', d1, d2, d3, _⟩ := parity (pick_dec (c := c) (k := k) hd.1) (fun e => by
   rw [p1, p1, m1, m1]
   constructor
   · rintro ⟨a, b⟩
     exact ⟨by omega, by rw [← hc.edge e (by omega)]; exact b⟩
   · rintro ⟨a, b⟩
     exact ⟨by omega, by rw [hc.edge e (by omega)]; exact b⟩) l.length
 have m2 : ∀ x, x ∈ F.flatten ↔ x < 2 * l.length := fun x => by rw [hF.perm.mem_iff, List.mem_range]
 have p2 := fun x => pick_mem (c := c) (k := k) hF.dec (fun x hx => hc.stf hm ((m2 x).1 hx)) x
 have hp : (pick c k F).flatten.Perm L'.flatten := by
   refine perm_of_same (pick_dec hF.dec).nodup d1.nodup (fun x => ?_)
   rw [p2, d2.mem_iff, p1, m1, m2]
 have h2 := (Dec.unique (fun _ => ()) (fun _ _ _ => rfl) (pick c k F) L' (pick_dec hF.dec) d1 hp).length_eq
 rw [List.length_map, List.length_map] at h2
 have h3 : inn (pick c k (full (rowsN r))).flatten l.length = (List.range l.length).countP (fun e => c (2 * e) == k) := by
   unfold inn
   refine List.countP_congr fun e he => ?_
   rw [List.mem_range] at he
   rw [decide_eq_true_eq, p1, m1, beq_iff_eq]
   exact ⟨fun q => q.2, fun q => ⟨by omega, q⟩⟩
 rw [h3] at d3
 omega
end
end Go.Proofs.Ytmikcfddipldnaa.Rot
namespace Go.Proofs.Ytmikcfddipldnaa.Rot
open Go.RowKit Go.Proofs.YtmikcfddipldnaaW.PrintWords Go.Proofs.YtmikcfddipldnaaW.PrintLast Go.Proofs.YtmikcfddipldnaaW.PrintMore Go.Proofs.Ytmikcfddipldnaa.GAll Go.Proofs.Ytmikcfddipldnaa.Mem Go.Proofs.Ytmikcfddipldnaa.Ring Go.Proofs.Ytmikcfddipldnaa.Face
set_option linter.unusedVariables false
set_option linter.unusedSimpArgs false
theorem sum_ite (c : Nat) {a : Nat} (h : a < c) : ((List.range c).map fun k => if a = k then (1 : Int) else 0).sum = 1 := by
 induction c with
 | zero => omega
 | succ c ih =>
   rw [List.range_succ, List.map_append, List.sum_append]
   by_cases e : a = c
   · subst e
     have h0 : ((List.range a).map fun k => if a = k then (1 : Int) else 0).sum = 0 := by
       have : (List.range a).map (fun k => if a = k then (1 : Int) else 0) = (List.range a).map fun _ => (0 : Int) := List.map_congr_left fun k hk => by
         rw [List.mem_range] at hk
         exact if_neg (by omega)
       rw [this]
       clear this ih h
       induction a with
       | zero => rfl
       | succ a ih => rw [List.range_succ, List.map_append, List.sum_append, ih]; rfl
     rw [h0]; simp
   · rw [ih (by omega)]; simp [e]
theorem sum_add (c : Nat) (f g : Nat → Int) : ((List.range c).map fun k => f k + g k).sum = ((List.range c).map f).sum + ((List.range c).map g).sum := by
 induction c with
 | zero => rfl
 | succ c ih => rw [List.range_succ, List.map_append, List.map_append, List.map_append, List.sum_append, List.sum_append, List.sum_append, ih]; simp; omega
theorem sum_congr {c : Nat} {f g : Nat → Int} (h : ∀ k, k < c → f k = g k) : ((List.range c).map f).sum = ((List.range c).map g).sum := by
 congr 1
 exact List.map_congr_left fun k hk => h k (List.mem_range.1 hk)
theorem sum_zero (c : Nat) : ((List.range c).map fun _ => (0 : Int)).sum = 0 := by
 induction c with
 | zero => rfl
 | succ c ih => rw [List.range_succ, List.map_append, List.sum_append, ih]; rfl
theorem sum_count {α : Type} (c : Nat) (g : α → Nat) : ∀ L : List α, (∀ x ∈ L, g x < c) → ((List.range c).map fun k => ((L.countP fun x => g x == k : Nat) : Int)).sum = L.length
 | [], _ => by
   simp only [List.countP_nil, List.length_nil]
   exact sum_zero c
 | a :: L, h => by
   have ih := sum_count c g L (fun x hx => h x (List.mem_cons_of_mem _ hx))
   have e : ∀ k, k < c → (((a :: L).countP fun x => g x == k : Nat) : Int) = ((L.countP fun x => g x == k : Nat) : Int) + (if g a = k then (1 : Int) else 0) := fun k _ => by
     rw [List.countP_cons]
     by_cases q : g a = k
     · simp [q]
     · simp [q]
   rw [sum_congr e, sum_add, ih, sum_ite c (h a (List.mem_cons_self ..))]
   simp
def num (P : List Nat) (v : Nat) : Nat := PureR.roots P (Sets.gt P v)
theorem roots_onto (P : List Nat) : ∀ n k, k < PureR.roots P n → ∃ i, i < n ∧ Sets.gt P i = i ∧ PureR.roots P i = k
 | 0, k, h => by simp [PureR.roots] at h
 | n + 1, k, h => by
   rw [PureR.roots_succ] at h
   by_cases c : k < PureR.roots P n
   · obtain ⟨i, h1, h2⟩ := roots_onto P n k c
     exact ⟨i, by omega, h2⟩
   · by_cases e : Sets.gt P n = n
     · rw [if_pos e] at h
       exact ⟨n, by omega, e, by omega⟩
     · rw [if_neg e] at h; omega
structure IsComp (n : Nat) (l : List Ed) (r : List (List Int)) (og : List Int) (c : Nat) : Prop where
 len : og.length = n
 key : ∀ k, k ∈ og ↔ 0 ≤ k ∧ k < (c : Int)
 edge : ∀ e, e < l.length → gi og (gi (frs l) (2 * e)).toNat = gi og (gi (frs l) (2 * e + 1)).toNat
 two : ∀ v w, v < n → w < n → v ≠ w → gi og v = gi og w → gl r v ≠ []
section
variable {n : Nat} {l : List Ed} {r : List (List Int)}
def ogOf (n : Nat) (l : List Ed) : List Int := (comps_Of.out (n : Int) l).1.map fun (x : Nat) => (x : Int)
theorem out_eq (n : Nat) (l : List Ed) : comps_Of.out (n : Int) l = Sets.numTo (parT n l l.length) n := by
 rw [parT_all]
 unfold comps_Of.out
 rw [Int.toNat_natCast]
 rfl
theorem parts_sets (n : Nat) (l : List Ed) : parts n l = Sets.sets (parT n l l.length) := by
 unfold parts
 rw [out_eq]
 have h := parT_part n l l.length
 have := Sets.numTo_all h
 rw [h.len] at this
 exact this
theorem parts_roots (n : Nat) (l : List Ed) : parts n l = PureR.roots (parT n l l.length) n := by
 unfold parts
 rw [out_eq]
 exact Sets.numTo_sets (parT_part n l l.length) n (Nat.le_refl _)
theorem gi_og {v : Nat} (hv : v < n) : gi (ogOf n l) v = (num (parT n l l.length) v : Int) := by
 have h := PureR.num_at (parT_part n l l.length) n (Nat.le_refl _) v hv
 have hl := Sets.numTo_length (parT n l l.length) n
 unfold ogOf
 rw [out_eq]
 unfold num
 rw [← h]
 unfold gi Sets.gt
 rw [List.getD_eq_getElem?_getD, List.getD_eq_getElem?_getD, List.getElem?_map, List.getElem?_eq_getElem (by rw [hl]; exact hv)]
 rfl
theorem conn_edge {es : List (Int × Int)} {v w : Nat} (h : Sets.Conn (Sets.EP n es) v w) : v = w ∨ ∃ x, Sets.EP n es v x ∨ Sets.EP n es x v := by
 induction h with
 | refl => exact .inl rfl
 | fwd _ e ih =>
   rcases ih with rfl | ih
   · exact .inr ⟨_, .inl e⟩
   · exact .inr ih
 | bwd _ e ih =>
   rcases ih with rfl | ih
   · exact .inr ⟨_, .inr e⟩
   · exact .inr ih
theorem IsMap.row_ne (hm : IsMap n l r) {v h : Nat} (hv : v < n) (hh : h < 2 * l.length) (e : gi (frs l) h = (v : Int)) : gl r v ≠ [] := by
 intro q
 have := (hm.row_at hv).2 ⟨hh, e⟩
 rw [q] at this
 cases this
theorem IsMap.row_of (hm : IsMap n l r) {v : Nat} (hv : v < n) (h : gl r v ≠ []) : ∃ h, h < 2 * l.length ∧ gi (frs l) h = (v : Int) := by
 obtain ⟨x, hx⟩ := List.exists_mem_of_ne_nil (fN (gl r v)) (by unfold fN; simpa using h)
 exact ⟨x, (hm.row_at hv).1 hx⟩
theorem IsMap.comp (hm : IsMap n l r) : IsComp n l r (ogOf n l) (parts n l) := by
 have hP := parT_part n l l.length
 rw [List.take_of_length_le (by rw [ends_length]; exact Nat.le_refl _)] at hP
 have hlen : (ogOf n l).length = n := by unfold ogOf; rw [List.length_map, out_eq]; exact Sets.numTo_length _ _
 refine ⟨hlen, fun k => ⟨fun hk => ?_, fun hk => ?_⟩, fun e he => ?_, fun v w hv hw hne e => ?_⟩
 · obtain ⟨v, hv, rfl⟩ := List.getElem_of_mem hk
   have hvn : v < n := by omega
   have e : (ogOf n l)[v] = gi (ogOf n l) v := (gi_get0 hv).symm
   rw [e, gi_og hvn, parts_roots]
   have := PureR.roots_lt (n := n) (m := parT n l l.length) (hP.lt hvn) (hP.idem hvn)
   unfold num
   omega
 · obtain ⟨j, rfl⟩ := Int.eq_ofNat_of_zero_le hk.1
   have hj : j < PureR.roots (parT n l l.length) n := by rw [← parts_roots]; omega
   obtain ⟨i, h1, h2, h3⟩ := roots_onto _ n j hj
   have e : (j : Int) = gi (ogOf n l) i := by rw [gi_og h1]; unfold num; rw [h2, h3]
   rw [e, gi_get0 (by omega)]
   exact List.getElem_mem _
 · obtain ⟨u, v, epe, hu, hv, huv, e1, e2⟩ := ends_in hm.good he
   rw [e1, e2, Int.toNat_natCast, Int.toNat_natCast, gi_og hu, gi_og hv]
   have : Sets.EP n (ends l) u v := ⟨hu, hv, by rw [← epe]; exact Sets.pe_mem (by rw [ends_length]; exact he)⟩
   unfold num
   rw [hP.edge u v this]
 · rw [gi_og hv, gi_og hw] at e
   have h1 := PureR.roots_inj (parT n l l.length) (hP.idem hv) (hP.idem hw) (by unfold num at e; omega)
   rcases conn_edge ((hP.iff hv hw).1 h1) with q | ⟨x, q | q⟩
   · exact absurd q hne
   · obtain ⟨_, hx, hmem⟩ := q
     obtain ⟨j, hj, ej⟩ := Sets.mem_pe hmem
     rw [ends_length] at hj
     obtain ⟨u, v', epe, hu, hv', huv, e1, e2⟩ := ends_in hm.good hj
     rw [ej] at epe
     simp only [Prod.mk.injEq] at epe
     exact hm.row_ne hv (h := 2 * j) (by omega) (by rw [e1]; omega)
   · obtain ⟨hx, _, hmem⟩ := q
     obtain ⟨j, hj, ej⟩ := Sets.mem_pe hmem
     rw [ends_length] at hj
     obtain ⟨u, v', epe, hu, hv', huv, e1, e2⟩ := ends_in hm.good hj
     rw [ej] at epe
     simp only [Prod.mk.injEq] at epe
     exact hm.row_ne hv (h := 2 * j + 1) (by omega) (by rw [e2]; omega)
def cv (og : List Int) (v : Nat) : Nat := (gi og v).toNat
def ch (og : List Int) (l : List Ed) (h : Nat) : Nat := cv og (gi (frs l) h).toNat
theorem IsComp.cls {og : List Int} {c : Nat} (h : IsComp n l r og c) : Cls n l (ch og l) (cv og) := ⟨fun _ _ => rfl, fun e he => by unfold ch cv; rw [h.edge e he]⟩
theorem IsComp.cv {og : List Int} {c : Nat} (h : IsComp n l r og c) {v : Nat} (hv : v < n) : gi og v = (cv og v : Int) ∧ cv og v < c := by
 have h1 : gi og v ∈ og := by rw [gi_get0 (by rw [h.len]; exact hv)]; exact List.getElem_mem _
 have := (h.key _).1 h1
 unfold Rot.cv
 omega
theorem pe_frs {j : Nat} (hj : j < l.length) : (pe (ends l) j).1 = gi (frs l) (2 * j) := by rw [pe_ends hj, frs_even hj]
theorem countP_range_map {α : Type} (L : List α) (d : α) (p : α → Bool) : L.countP p = (List.range L.length).countP fun i => p (L.getD i d) := by
 have e : L = (List.range L.length).map fun i => L.getD i d := by
   apply List.ext_getElem
   · simp
   · intro i h1 h2
     simp [List.getD_eq_getElem?_getD, h1]
 conv => lhs; rw [e]
 rw [List.countP_map]
 rfl
theorem IsComp.ni {og : List Int} {c : Nat} (h : IsComp n l r og c) (k : Nat) : Cnt.cntTo og og.length (k : Int) = ((List.range n).countP fun v => Rot.cv og v == k : Nat) := by
 unfold Cnt.cntTo
 rw [List.take_length, countP_range_map og 0, h.len]
 congr 1
 refine List.countP_congr fun v hv => ?_
 rw [List.mem_range] at hv
 have := (h.cv hv).1
 show (gi og v == (k : Int)) = true ↔ _
 rw [this, beq_iff_eq, beq_iff_eq]
 omega
theorem IsComp.mi {og : List Int} {c : Nat} (h : IsComp n l r og c) (hm : IsMap n l r) (k : Nat) : Cnt.cntTo (Cnt.ksE og (ends l)) (ends l).length (k : Int) = ((List.range l.length).countP fun e => ch og l (2 * e) == k : Nat) := by
 unfold Cnt.cntTo
 have e : (Cnt.ksE og (ends l)).length = (ends l).length := by unfold Cnt.ksE; simp
 rw [List.take_of_length_le (by omega), countP_range_map _ 0, e, ends_length]
 congr 1
 refine List.countP_congr fun j hj => ?_
 rw [List.mem_range] at hj
 have h1 := frs_range hm.good (h := 2 * j) (by omega)
 have h2 := (h.cv (v := (gi (frs l) (2 * j)).toNat) (by omega)).1
 have h3 := Cnt.gi_ksE og (ends l) (j := j) (by rw [ends_length]; exact hj)
 show (gi (Cnt.ksE og (ends l)) j == (k : Int)) = true ↔ _
 rw [h3, pe_frs hj, h2, beq_iff_eq, beq_iff_eq]
 unfold ch
 omega
theorem IsComp.fi {og : List Int} {c : Nat} (h : IsComp n l r og c) (hm : IsMap n l r) {F : List (List Nat)} (hF : Faces (stf l r) (2 * l.length) F) (k : Nat) : Cnt.cntTo (Cnt.ksF og (ends l) (F.map zN)) (F.map zN).length (k : Int) = (F.countP fun L => ch og l (L.headD 0) == k : Nat) := by
 unfold Cnt.cntTo Cnt.ksF
 rw [List.take_of_length_le (by simp), List.map_map, List.countP_map]
 congr 1
 refine List.countP_congr fun L hL => ?_
 have hr := hF.dec.ring L hL
 have hx : L.headD 0 ∈ L := by
   cases L with
   | nil => exact absurd rfl hr.1
   | cons a t => simp
 have hlt : L.headD 0 < 2 * l.length := by
   have := hF.perm.mem_iff.1 (List.mem_flatten.2 ⟨L, hL, hx⟩)
   rw [List.mem_range] at this
   exact this
 have e0 : gi (zN L) 0 = (L.headD 0 : Int) := by
   cases L with
   | nil => exact absurd rfl hr.1
   | cons a t => rfl
 have hj : L.headD 0 / 2 < l.length := by omega
 have h1 := frs_range hm.good (h := 2 * (L.headD 0 / 2)) (by omega)
 have h2 := (h.cv (v := (gi (frs l) (2 * (L.headD 0 / 2))).toNat) (by omega)).1
 have h3 : ch og l (2 * (L.headD 0 / 2)) = ch og l (L.headD 0) := by
   rcases Nat.mod_two_eq_zero_or_one (L.headD 0) with q | q
   · rw [show 2 * (L.headD 0 / 2) = L.headD 0 by omega]
   · have := h.cls.edge _ hj
     rw [show 2 * (L.headD 0 / 2) + 1 = L.headD 0 by omega] at this
     exact this
 show (gi og (pe (ends l) ((gi (zN L) 0).toNat / 2)).1.toNat == (k : Int)) = true ↔ _
 rw [e0, Int.toNat_natCast, pe_frs hj, h2, ← h3, beq_iff_eq, beq_iff_eq]
 unfold ch
 omega
theorem pick_rows (hm : IsMap n l r) (og : List Int) (k : Nat) : (pick (ch og l) k (full (rowsN r))).length + (List.range n).countP (fun v => (gl r v).isEmpty && (Rot.cv og v == k)) = (List.range n).countP (fun v => Rot.cv og v == k) := by
 have h1 : (pick (ch og l) k (full (rowsN r))).length = (List.range n).countP (fun v => !(gl r v).isEmpty && (Rot.cv og v == k)) := by
   unfold pick full rowsN
   rw [List.filter_filter, ← List.countP_eq_length_filter, List.countP_map, countP_range_map r [], hm.rot.len]
   refine List.countP_congr fun v hv => ?_
   rw [List.mem_range] at hv
   show ((ch og l ((fN (gl r v)).headD 0) == k) && !(fN (gl r v)).isEmpty) = true ↔ _
   cases hrow : gl r v with
   | nil => simp [fN]
   | cons x t =>
     have hx : x.toNat ∈ fN (gl r v) := by rw [hrow]; simp [fN]
     have := ((hm.row_at hv).1 hx).2
     have e : ch og l ((fN (x :: t)).headD 0) = Rot.cv og v := by
       show Rot.cv og (gi (frs l) x.toNat).toNat = _
       rw [this, Int.toNat_natCast]
     rw [e]
     simp [fN]
 rw [h1]
 have key : ∀ L : List Nat, L.countP (fun v => !(gl r v).isEmpty && (Rot.cv og v == k)) + L.countP (fun v => (gl r v).isEmpty && (Rot.cv og v == k)) = L.countP (fun v => Rot.cv og v == k) := by
   intro L
   induction L with
   | nil => rfl
   | cons a L ih =>
     rw [List.countP_cons, List.countP_cons, List.countP_cons]
     cases (gl r a).isEmpty <;> cases (Rot.cv og a == k) <;> simp <;> omega
 exact key _
theorem countP_pos {α : Type} {p : α → Bool} {L : List α} : 0 < L.countP p ↔ ∃ x ∈ L, p x = true := List.countP_pos_iff
theorem countP_le_one {p : Nat → Bool} : ∀ (L : List Nat), L.Nodup → (∀ x ∈ L, ∀ y ∈ L, p x = true → p y = true → x = y) → L.countP p ≤ 1
 | [], _, _ => by simp
 | a :: L, hn, h => by
   rw [List.nodup_cons] at hn
   have ih := countP_le_one L hn.2 (fun x hx y hy => h x (List.mem_cons_of_mem _ hx) y (List.mem_cons_of_mem _ hy))
   rw [List.countP_cons]
   by_cases c : p a = true
   · have h0 : L.countP p = 0 := by
       rw [List.countP_eq_zero]
       intro x hx hp
       have := h a (List.mem_cons_self ..) x (List.mem_cons_of_mem _ hx) c hp
       exact hn.1 (by rw [this]; exact hx)
     rw [h0, if_pos c]
     exact Nat.le_refl _
   · rw [if_neg c]; omega
theorem IsComp.one {og : List Int} {c : Nat} (h : IsComp n l r og c) (hm : IsMap n l r) {F : List (List Nat)} (hF : Faces (stf l r) (2 * l.length) F) {k : Nat} (hk : k < c) {ni mi fi ii : Nat}
   (h1 : ni = (List.range n).countP fun v => Rot.cv og v == k) (h2 : mi = (List.range l.length).countP fun e => ch og l (2 * e) == k) (h3 : fi = F.countP fun L => ch og l (L.headD 0) == k) (h4 : ii = (List.range n).countP fun v => (gl r v).isEmpty && (Rot.cv og v == k)) :
   2 * Cnt.term (ni : Int) (mi : Int) (fi : Int) = 2 - (ni : Int) + mi - fi - ii := by
 have hev := class_even hm hF h.cls k
 have hpr := pick_rows hm og k
 have hpf : (pick (ch og l) k F).length = fi := by rw [h3]; unfold pick; rw [← List.countP_eq_length_filter]
 rw [hpf, ← h2] at hev
 rw [← h4, ← h1] at hpr
 have hedge : ∀ x, x < 2 * l.length → ch og l x = k → 0 < mi := fun x hx e => by
   rw [h2, countP_pos]
   refine ⟨x / 2, by rw [List.mem_range]; omega, ?_⟩
   rw [beq_iff_eq, ← e]
   rcases Nat.mod_two_eq_zero_or_one x with q | q
   · rw [show 2 * (x / 2) = x by omega]
   · have := h.cls.edge (x / 2) (by omega)
     rw [show 2 * (x / 2) + 1 = x by omega] at this
     exact this
 have hrow : ∀ v, v < n → Rot.cv og v = k → gl r v ≠ [] → 0 < mi := fun v hv e hne => by
   obtain ⟨x, hx, ex⟩ := hm.row_of hv hne
   exact hedge x hx (by unfold ch; rw [ex, Int.toNat_natCast]; exact e)
 have htwo : ∀ v w, v < n → w < n → v ≠ w → Rot.cv og v = Rot.cv og w → gl r v ≠ [] := fun v w hv hw hne e => h.two v w hv hw hne (by rw [(h.cv hv).1, (h.cv hw).1, e])
 by_cases c0 : 0 < mi
 · have hi0 : ii = 0 := by
     rw [h4, List.countP_eq_zero]
     intro v hv
     rw [List.mem_range] at hv
     intro q
     rw [Bool.and_eq_true, beq_iff_eq, List.isEmpty_iff] at q
     rw [h2, countP_pos] at c0
     obtain ⟨e, he, ee⟩ := c0
     rw [List.mem_range] at he
     rw [beq_iff_eq] at ee
     have hfr := frs_range hm.good (h := 2 * e) (by omega)
     obtain ⟨u, hu⟩ := Int.eq_ofNat_of_zero_le hfr.1
     by_cases cu : u = v
     · subst cu
       exact hm.row_ne hv (h := 2 * e) (by omega) hu q.1
     · exact htwo v u hv (by omega) (fun x => cu x.symm) (by
         rw [q.2, ← ee]
         unfold ch
         rw [hu]; rfl) q.1
   unfold Cnt.term
   rw [if_pos (by omega), Cnt.tdiv2]
   split <;> omega
 · have hn1 : ni = 1 := by
     have hle : ni ≤ 1 := by
       rw [h1]
       refine countP_le_one _ List.nodup_range (fun x hx y hy px py => Decidable.byContradiction fun hne => ?_)
       rw [List.mem_range] at hx hy
       rw [beq_iff_eq] at px py
       exact c0 (hrow x hx px (htwo x y hx hy hne (by rw [px, py])))
     have hge : 0 < ni := by
       rw [h1, countP_pos]
       have hmem := (h.key (k : Int)).2 ⟨by omega, by omega⟩
       obtain ⟨v, hv, e⟩ := List.getElem_of_mem hmem
       rw [← gi_get0 hv] at e
       refine ⟨v, by rw [List.mem_range, ← h.len]; exact hv, ?_⟩
       rw [beq_iff_eq]
       unfold Rot.cv
       rw [e]; rfl
     omega
   have hii : ii = ni := by
     rw [h4, h1]
     refine List.countP_congr fun v hv => ?_
     rw [List.mem_range] at hv
     rw [Bool.and_eq_true, beq_iff_eq, List.isEmpty_iff]
     refine ⟨fun q => q.2, fun q => ⟨Decidable.byContradiction fun hne => c0 (hrow v hv q hne), q⟩⟩
   have hfi : fi = 0 := by
     rw [h3, List.countP_eq_zero]
     intro L hL q
     rw [beq_iff_eq] at q
     have hr := hF.dec.ring L hL
     have hx : L.headD 0 ∈ L := by
       cases L with
       | nil => exact absurd rfl hr.1
       | cons a t => simp
     have := hF.perm.mem_iff.1 (List.mem_flatten.2 ⟨L, hL, hx⟩)
     rw [List.mem_range] at this
     exact c0 (hedge _ this q)
   unfold Cnt.term
   rw [if_neg (by omega)]
   omega
theorem IsComp.lt {og : List Int} {c : Nat} (h : IsComp n l r og c) (hm : IsMap n l r) {x : Nat} (hx : x < 2 * l.length) : ch og l x < c := by
 have := frs_range hm.good hx
 exact (h.cv (v := (gi (frs l) x).toNat) (by omega)).2
theorem lone_count (hm : IsMap n l r) : lone r = (List.range n).countP fun v => (gl r v).isEmpty := by
 unfold lone
 rw [countP_range_map r [], hm.rot.len]
 rfl
theorem IsComp.twice {og : List Int} {c : Nat} (h : IsComp n l r og c) (hm : IsMap n l r) {F : List (List Nat)} (hF : Faces (stf l r) (2 * l.length) F) :
   2 * Cnt.genusSum og (ends l) (F.map zN) c = 2 * (c : Int) - n + l.length - F.length - lone r := by
 have e2 : ∀ (f : Nat → Int), 2 * ((List.range c).map f).sum = ((List.range c).map fun k => 2 * f k).sum := fun f => by
   have := sum_add c f f
   rw [show (fun k => 2 * f k) = fun k => f k + f k from funext fun k => by omega, this]
   omega
 unfold Cnt.genusSum
 rw [e2]
 have hone : ∀ k, k < c → 2 * Cnt.term (Cnt.cntTo og og.length (k : Int)) (Cnt.cntTo (Cnt.ksE og (ends l)) (ends l).length (k : Int)) (Cnt.cntTo (Cnt.ksF og (ends l) (F.map zN)) (F.map zN).length (k : Int)) =
     ((2 + -(((List.range n).countP fun v => Rot.cv og v == k : Nat) : Int)) + ((List.range l.length).countP fun e => ch og l (2 * e) == k : Nat)) + (-((F.countP fun L => ch og l (L.headD 0) == k : Nat) : Int) + -(((List.range n).countP fun v => (gl r v).isEmpty && (Rot.cv og v == k) : Nat) : Int)) := fun k hk => by
   rw [h.ni k, h.mi hm k, h.fi hm hF k, h.one hm hF hk rfl rfl rfl rfl]
   omega
 rw [sum_congr hone, sum_add, sum_add, sum_add, sum_add]
 have neg : ∀ (f : Nat → Int), ((List.range c).map fun k => -(f k)).sum = -((List.range c).map f).sum := fun f => by
   have := sum_add c (fun k => -(f k)) f
   rw [sum_congr (f := fun k => -(f k) + f k) (g := fun _ => 0) (fun k _ => by omega), sum_zero] at this
   omega
 rw [neg, neg, neg]
 have s1 := sum_count c (fun v => Rot.cv og v) (List.range n) (fun v hv => (h.cv (List.mem_range.1 hv)).2)
 have s2 := sum_count c (fun e => ch og l (2 * e)) (List.range l.length) (fun e he => h.lt hm (by rw [List.mem_range] at he; omega))
 have s3 := sum_count c (fun L : List Nat => ch og l (L.headD 0)) F (fun L hL => by
   have hr := hF.dec.ring L hL
   have hx : L.headD 0 ∈ L := by
     cases L with
     | nil => exact absurd rfl hr.1
     | cons a t => simp
   have := hF.perm.mem_iff.1 (List.mem_flatten.2 ⟨L, hL, hx⟩)
   rw [List.mem_range] at this
   exact h.lt hm this)
 have s4 : ((List.range c).map fun k => (((List.range n).countP fun v => (gl r v).isEmpty && (Rot.cv og v == k) : Nat) : Int)).sum = (lone r : Int) := by
   have := sum_count c (fun v => Rot.cv og v) ((List.range n).filter fun v => (gl r v).isEmpty) (fun v hv => (h.cv (List.mem_range.1 (List.mem_filter.1 hv).1)).2)
   rw [← List.countP_eq_length_filter, ← lone_count hm] at this
   rw [← this]
   refine sum_congr fun k _ => ?_
   rw [List.countP_filter]
   congr 1
   refine List.countP_congr fun v _ => ?_
   rw [Bool.and_comm]
 have s5 : ((List.range c).map fun _ => (2 : Int)).sum = 2 * (c : Int) := by
   have : ∀ q : Nat, ((List.range q).map fun _ => (2 : Int)).sum = 2 * (q : Int) := fun q => by
     induction q with
     | zero => rfl
     | succ q ih => rw [List.range_succ, List.map_append, List.sum_append, ih]; simp; omega
   exact this c
 rw [List.length_range] at s1 s2
 rw [s1, s2, s3, s4, s5]
 omega
end
end Go.Proofs.Ytmikcfddipldnaa.Rot
namespace Go.Proofs.Ytmikcfddipldnaa.GAll
open Go.RowKit Go.Proofs.YtmikcfddipldnaaW.PrintWords Go.Proofs.YtmikcfddipldnaaW.PrintLast Go.Proofs.YtmikcfddipldnaaW.PrintMore
attribute [local go_sem] max2_int min2_int max_two min_two max_three min_three max_four min_four   -- for this text's walks alone
set_option linter.unusedVariables false
set_option linter.unusedSimpArgs false
mutual
def tangramref05_Isolated.l0 : Nat → List Bool → Int → Int → List (S56) → Option (Int × Int)
 | 0, _, _, _, _ => none
 | k + 1, x4, x5, x183000, x183001 => if x5 < (x183001.length : Int) then (if 0 ≤ x5 then (if 0 ≤ ((rd_T56 x183001 x5).f0) then (if ((rd_T56 x183001 x5).f0) < (x4.length : Int) then (if 0 ≤ ((rd_T56 x183001 x5).f1) then (if ((rd_T56 x183001 x5).f1) < (x4.length : Int) then (tangramref05_Isolated.l0 k ((x4.set (((rd_T56 x183001 x5).f0) : Int).toNat true).set (((rd_T56 x183001 x5).f1) : Int).toNat true) (wrap64 (x5 + 1)) x183000 x183001) else (none)) else (none)) else (none)) else (none)) else (none)) else (tangramref05_Isolated.l1 k x4 0 0 x183000 x183001)
def tangramref05_Isolated.l1 : Nat → List Bool → Int → Int → Int → List (S56) → Option (Int × Int)
 | 0, _, _, _, _, _ => none
 | k + 1, x4, x6, x7, x183000, x183001 => if x7 < x183000 then (if 0 ≤ x7 then (if x7 < (x4.length : Int) then (if rdOf false x4 x7 = true then (tangramref05_Isolated.l1 k x4 x6 (wrap64 (x7 + 1)) x183000 x183001) else (tangramref05_Isolated.l1 k x4 (wrap64 (x6 + 1)) (wrap64 (x7 + 1)) x183000 x183001)) else (none)) else (none)) else (some (x6, 0))
end
def tangramref05_Isolated.f (k : Nat) (a0_0 : Int) (l0_1 : List (S56)) : Option (Int × Int) := (tangramref03_Valid.f k a0_0 l0_1).bind fun t183 => (if t183 = true then (if 0 ≤ a0_0 then (if (a0_0 : Int).toNat ≤ 281474976710656 then (tangramref05_Isolated.l0 k (List.replicate (a0_0 : Int).toNat false) 0 a0_0 l0_1) else (none)) else (none)) else (some (0, 1)))
theorem tangramref05_Isolated.mono_l : ∀ k, (∀ y0 y1 y2 y3, LeO (tangramref05_Isolated.l0 k y0 y1 y2 y3) (tangramref05_Isolated.l0 (k + 1) y0 y1 y2 y3)) ∧ (∀ y0 y1 y2 y3 y4, LeO (tangramref05_Isolated.l1 k y0 y1 y2 y3 y4) (tangramref05_Isolated.l1 (k + 1) y0 y1 y2 y3 y4))
 | 0 => ⟨fun _ _ _ _ r h => by simp [tangramref05_Isolated.l0] at h, fun _ _ _ _ _ r h => by simp [tangramref05_Isolated.l1] at h⟩
 | k + 1 => by
   obtain ⟨ih0, ih1⟩ := tangramref05_Isolated.mono_l k
   refine ⟨?_, ?_⟩
   · intro y0 y1 y2 y3
     unfold tangramref05_Isolated.l0
     repeat' first
     | (with_reducible exact ih0 _ _ _ _)
     | (with_reducible exact ih1 _ _ _ _ _)
     | (with_reducible exact tangramref03_Valid.mono _ _ _)
     | (with_reducible exact LeO.refl _)
     | (with_reducible exact LeO.none _)
     | (with_reducible refine LeO.ite ?_ ?_)
     | (with_reducible refine LeO.bind ?_ (fun _ => ?_))
     | exact ih0 _ _ _ _
     | exact ih1 _ _ _ _ _
     | exact tangramref03_Valid.mono _ _ _
     | exact LeO.none _
     | refine LeO.ite ?_ ?_
     | refine LeO.bind ?_ (fun _ => ?_)
   · intro y0 y1 y2 y3 y4
     unfold tangramref05_Isolated.l1
     repeat' first
     | (with_reducible exact ih0 _ _ _ _)
     | (with_reducible exact ih1 _ _ _ _ _)
     | (with_reducible exact tangramref03_Valid.mono _ _ _)
     | (with_reducible exact LeO.refl _)
     | (with_reducible exact LeO.none _)
     | (with_reducible refine LeO.ite ?_ ?_)
     | (with_reducible refine LeO.bind ?_ (fun _ => ?_))
     | exact ih0 _ _ _ _
     | exact ih1 _ _ _ _ _
     | exact tangramref03_Valid.mono _ _ _
     | exact LeO.none _
     | refine LeO.ite ?_ ?_
     | refine LeO.bind ?_ (fun _ => ?_)
theorem tangramref05_Isolated.mono : ∀ a0 a1 k, LeO (tangramref05_Isolated.f k a0 a1) (tangramref05_Isolated.f (k + 1) a0 a1) := by
 intro a0 a1 k
 obtain ⟨ih0, ih1⟩ := tangramref05_Isolated.mono_l k
 unfold tangramref05_Isolated.f
 repeat' first
     | (with_reducible exact ih0 _ _ _ _)
     | (with_reducible exact ih1 _ _ _ _ _)
     | (with_reducible exact tangramref03_Valid.mono _ _ _)
     | (with_reducible exact LeO.refl _)
     | (with_reducible exact LeO.none _)
     | (with_reducible refine LeO.ite ?_ ?_)
     | (with_reducible refine LeO.bind ?_ (fun _ => ?_))
     | exact ih0 _ _ _ _
     | exact ih1 _ _ _ _ _
     | exact tangramref03_Valid.mono _ _ _
     | exact LeO.none _
     | refine LeO.ite ?_ ?_
     | refine LeO.bind ?_ (fun _ => ?_)
end Go.Proofs.Ytmikcfddipldnaa.GAll
namespace Go.Proofs.Ytmikcfddipldnaa.GAll
open Go.RowKit Go.Proofs.YtmikcfddipldnaaW.PrintWords Go.Proofs.YtmikcfddipldnaaW.PrintLast Go.Proofs.YtmikcfddipldnaaW.PrintMore
attribute [local go_sem] max2_int min2_int max_two min_two max_three min_three max_four min_four   -- for this text's walks alone
set_option linter.unusedVariables false
set_option linter.unusedSimpArgs false
def tangramref12_Genus.f (k : Nat) (a0_0 : Int) (l0_1 : List (S56)) (l1 : List (List Int)) : Option (Int × Int) := (tangramref12_Of.f k a0_0 l0_1 l1).bind fun bt193 => (if bt193.2 = 0 then ((tangramref05_Of.f k a0_0 l0_1).bind fun bt197 => ((tangramref05_Isolated.f k a0_0 l0_1).bind fun bt202 => (some (wrap64 (Int.tdiv (wrap64 ((wrap64 ((wrap64 ((wrap64 ((wrap64 (2 * bt197.2.1)) - bt202.1)) - a0_0)) + (l0_1.length : Int))) - (bt193.1.length : Int))) 2), 0)))) else (some (0, bt193.2)))
theorem tangramref12_Genus.mono : ∀ a0 a1 a2 k, LeO (tangramref12_Genus.f k a0 a1 a2) (tangramref12_Genus.f (k + 1) a0 a1 a2) := by
 intro a0 a1 a2 k
 unfold tangramref12_Genus.f
 repeat' first
     | (with_reducible exact tangramref05_Isolated.mono _ _ _)
     | (with_reducible exact tangramref05_Of.mono _ _ _)
     | (with_reducible exact tangramref12_Of.mono _ _ _ _)
     | (with_reducible exact LeO.refl _)
     | (with_reducible exact LeO.none _)
     | (with_reducible refine LeO.ite ?_ ?_)
     | (with_reducible refine LeO.bind ?_ (fun _ => ?_))
     | exact tangramref05_Isolated.mono _ _ _
     | exact tangramref05_Of.mono _ _ _
     | exact tangramref12_Of.mono _ _ _ _
     | exact LeO.none _
     | refine LeO.ite ?_ ?_
     | refine LeO.bind ?_ (fun _ => ?_)
end Go.Proofs.Ytmikcfddipldnaa.GAll
namespace Go.Proofs.Ytmikcfddipldnaa.GAll
open Go.RowKit Go.Proofs.YtmikcfddipldnaaW.PrintWords Go.Proofs.YtmikcfddipldnaaW.PrintLast Go.Proofs.YtmikcfddipldnaaW.PrintMore
attribute [local go_sem] max2_int min2_int max_two min_two max_three min_three max_four min_four   -- for this text's walks alone
set_option linter.unusedVariables false
set_option linter.unusedSimpArgs false
def tangramref12_Flat.f (k : Nat) (a0_0 : Int) (l0_1 : List (S56)) (l1 : List (List Int)) : Option (Bool) := (tangramref12_Genus.f k a0_0 l0_1 l1).bind fun bt205 => (if bt205.2 = 0 then (some (bt205.1 == 0)) else (some false))
theorem tangramref12_Flat.mono : ∀ a0 a1 a2 k, LeO (tangramref12_Flat.f k a0 a1 a2) (tangramref12_Flat.f (k + 1) a0 a1 a2) := by
 intro a0 a1 a2 k
 unfold tangramref12_Flat.f
 repeat' first
     | (with_reducible exact tangramref12_Genus.mono _ _ _ _)
     | (with_reducible exact LeO.refl _)
     | (with_reducible exact LeO.none _)
     | (with_reducible refine LeO.ite ?_ ?_)
     | (with_reducible refine LeO.bind ?_ (fun _ => ?_))
     | exact tangramref12_Genus.mono _ _ _ _
     | exact LeO.none _
     | refine LeO.ite ?_ ?_
     | refine LeO.bind ?_ (fun _ => ?_)
end Go.Proofs.Ytmikcfddipldnaa.GAll
namespace Go.Proofs.Ytmikcfddipldnaa.Rot
open Go.RowKit Go.Proofs.YtmikcfddipldnaaW.PrintWords Go.Proofs.YtmikcfddipldnaaW.PrintLast Go.Proofs.YtmikcfddipldnaaW.PrintMore Go.Proofs.Ytmikcfddipldnaa.GAll Go.Proofs.Ytmikcfddipldnaa.Mem Go.Proofs.Ytmikcfddipldnaa.Ring Go.Proofs.Ytmikcfddipldnaa.Face
set_option linter.unusedVariables false
set_option linter.unusedSimpArgs false
section
variable {n : Nat} {l : List Ed} {r : List (List Int)}
theorem comps_ev (hg : PureV.Good (n : Int) l) : Ev (fun k => comps_Of.f k (n : Int) l) (ogOf n l, (parts n l : Int), 0) := by
 obtain ⟨b, h1, h2, h3⟩ := PureV.valid (n : Int) l
 rw [h3.2 hg] at h1
 unfold comps_Of.f
 exact Ev.bind h1 (Ev.congr (fun k => if_pos rfl) (Ev.congr (fun k => if_pos ⟨hg.1, hg.2.1⟩) (Ev.now _)))
theorem parts_le (hg : PureV.Good (n : Int) l) : parts n l ≤ n := by
 rw [parts_sets]
 have h := Sets.sets_le (parT n l l.length)
 have := (parT_part n l l.length).len
 omega
theorem IsMap.fitG (hm : IsMap n l r) : Cnt.fitB (ogOf n l) (ends l) (facesL (stOf l r)) (parts n l) = true := by
 obtain ⟨F, e, hF⟩ := hm.faces
 have hc := hm.comp
 have hl := hm.lists
 have hp := parts_le hm.good
 have hg := hm.good
 refine Cnt.fit_of.2 ⟨by have := hg.2.1; omega, by rw [hc.len]; have := hg.2.1; omega, by rw [ends_length]; exact hg.2.2.1, hl.1, hc.key, fun j hj => ?_, fun q hq => ?_⟩
 · rw [ends_length] at hj
   obtain ⟨⟨a, b, c⟩, _⟩ := hg.2.2.2 j hj
   rw [pe_ends hj, hc.len]
   simp only
   omega
 · rw [e, List.length_map] at hq
   have e2 : gl (facesL (stOf l r)) q = zN F[q] := by
     rw [e]
     unfold gl
     rw [List.getD_eq_getElem?_getD, List.getElem?_map, List.getElem?_eq_getElem hq]
     rfl
   rw [e2]
   have hL : F[q] ∈ F := List.getElem_mem hq
   have hr := hF.dec.ring _ hL
   generalize F[q] = L at hL hr
   cases L with
   | nil => exact absurd rfl hr.1
   | cons a t =>
     have := faces_mem hm hF hL a (List.mem_cons_self ..)
     refine ⟨by simp [zN], ?_⟩
     show 0 ≤ (a : Int) ∧ (a : Int) < _
     rw [ends_length]
     omega
def genus (n : Nat) (l : List Ed) (r : List (List Int)) : Int := Cnt.genusSum (ogOf n l) (ends l) (facesL (stOf l r)) (parts n l)
theorem IsMap.genus_eq (hm : IsMap n l r) : 2 * genus n l r = 2 * (parts n l : Int) - n + l.length - (facesL (stOf l r)).length - lone r := by
 obtain ⟨F, e, hF⟩ := hm.faces
 have := hm.comp.twice hm hF
 unfold genus
 rw [e, this, List.length_map]
theorem lone_le (hm : IsMap n l r) : lone r ≤ n := by
 have := full_length r
 rw [hm.rot.len] at this
 omega
theorem IsMap.genus_pos (hm : IsMap n l r) : 0 ≤ genus n l r := by
 obtain ⟨F, e, hF⟩ := hm.faces
 have h1 := hm.genus_eq
 have h2 := faces_le hm hF
 rw [e, List.length_map] at h1
 rw [← parts_sets] at h2
 omega
theorem genus_ok (hm : IsMap n l r) (h : Ev (fun k => rot_Check.f k (n : Int) l r) (0, 0)) : Ev (fun k => faces_Genus.f k (n : Int) l r) (genus n l r, 0) := by
 unfold faces_Genus.f
 refine Ev.bind (of_ok hm h) (Ev.congr (fun k => if_pos rfl) (Ev.bind (comps_ev hm.good) (Ev.congr (fun k => ?_) (Ev.now _))))
 unfold faces_Genus.told
 simp only
 rw [Int.toNat_natCast]
 exact if_pos ⟨trivial, by omega, hm.fitG⟩
theorem genus_bad {v e : Int} {a : Int} (he : e ≠ 0) (h : Ev (fun k => rot_Check.f k a l r) (v, e)) : Ev (fun k => faces_Genus.f k a l r) (0, e) := by
 unfold faces_Genus.f
 exact Ev.bind (of_bad he h) (Ev.congr (fun k => if_neg he) (Ev.now _))
theorem flat_ok (hm : IsMap n l r) (h : Ev (fun k => rot_Check.f k (n : Int) l r) (0, 0)) : Ev (fun k => faces_Flat.f k (n : Int) l r) (genus n l r == 0) := by
 unfold faces_Flat.f
 exact Ev.bind (genus_ok hm h) (Ev.congr (fun k => if_pos rfl) (Ev.now _))
def MetB (n : Nat) (l : List Ed) (i : Nat) (M : List Bool) : Prop := M.length = n ∧ ∀ v, v < n → (gb M v = true ↔ 0 < cnt (frs l) (2 * i) v)
def loneTo (l : List Ed) (i : Nat) : Nat := (List.range i).countP fun (v : Nat) => cnt (frs l) (2 * l.length) (v : Int) == 0
theorem loneTo_succ (l : List Ed) (i : Nat) : loneTo l (i + 1) = loneTo l i + if cnt (frs l) (2 * l.length) (i : Int) = 0 then 1 else 0 := by
 unfold loneTo
 rw [List.range_succ, List.countP_append]
 by_cases h : cnt (frs l) (2 * l.length) (i : Int) = 0 <;> simp [h]
theorem loneTo_le (l : List Ed) (i : Nat) : loneTo l i ≤ i := by
 unfold loneTo
 have := List.countP_le_length (p := fun (v : Nat) => cnt (frs l) (2 * l.length) (v : Int) == 0) (l := List.range i)
 simpa using this
theorem lone_eq (hm : IsMap n l r) : lone r = loneTo l n := by
 rw [lone_count hm]
 unfold loneTo
 refine List.countP_congr fun v hv => ?_
 rw [List.mem_range] at hv
 have := row_len hm.rot hv
 rw [frs_length] at this
 rw [List.isEmpty_iff, beq_iff_eq, ← List.length_eq_zero_iff, this]
end
end Go.Proofs.Ytmikcfddipldnaa.Rot
namespace Go.Proofs.Ytmikcfddipldnaa.Rot
open Go.RowKit Go.Proofs.YtmikcfddipldnaaW.PrintWords Go.Proofs.YtmikcfddipldnaaW.PrintLast Go.Proofs.YtmikcfddipldnaaW.PrintMore Go.Proofs.Ytmikcfddipldnaa.GAll Go.Proofs.Ytmikcfddipldnaa.Mem Go.Proofs.Ytmikcfddipldnaa.Ring Go.Proofs.Ytmikcfddipldnaa.Face
set_option linter.unusedVariables false
set_option linter.unusedSimpArgs false
section
variable {n : Nat} {l : List Ed} {r : List (List Int)}
def Tree (l : List Ed) : Prop := ∀ i j, i < l.length → j < l.length → (PureV.rdE l (i : Nat)).f1 = (PureV.rdE l (j : Nat)).f1 → i = j
theorem ep_take {t a b : Nat} (h : Sets.EP n ((ends l).take t) a b) : ∃ i, i < t ∧ i < l.length ∧ (PureV.rdE l (i : Nat)).f0 = (a : Int) ∧ (PureV.rdE l (i : Nat)).f1 = (b : Int) := by
 obtain ⟨i, hi, e⟩ := List.mem_iff_getElem.1 h.2.2
 rw [List.length_take, ends_length] at hi
 rw [List.getElem_take] at e
 have hl : i < l.length := by omega
 have e2 : Sets.pe (ends l) i = ((PureV.rdE l (i : Nat)).f0, (PureV.rdE l (i : Nat)).f1) := pe_ends hl
 have e3 : Sets.pe (ends l) i = (ends l)[i]'(by rw [ends_length]; exact hl) := by
   unfold Sets.pe
   rw [List.getD_eq_getElem?_getD, List.getElem?_eq_getElem (by rw [ends_length]; exact hl)]
   rfl
 rw [← e3, e2] at e
 simp only [Prod.mk.injEq] at e
 exact ⟨i, by omega, hl, e.1, e.2⟩
inductive Down (n : Nat) (l : List Ed) (t v : Nat) : Nat → Prop where
 | self : Down n l t v v
 | step {x y : Nat} : Down n l t v x → Sets.EP n ((ends l).take t) x y → Down n l t v y
theorem Down.ge (hg : PureV.Good (n : Int) l) {t v x : Nat} (h : Down n l t v x) : v ≤ x := by
 induction h with
 | self => exact Nat.le_refl _
 | step _ e ih =>
   obtain ⟨i, _, hl, e0, e1⟩ := ep_take e
   have := (hg.2.2.2 i hl).1
   unfold PureV.okE at this
   omega
theorem tree_apart (hg : PureV.Good (n : Int) l) (ht : Tree l) {t u v : Nat} (hl : t < l.length) (e0 : (PureV.rdE l (t : Nat)).f0 = (u : Int)) (e1 : (PureV.rdE l (t : Nat)).f1 = (v : Int)) : ¬ Sets.Conn (Sets.EP n ((ends l).take t)) v u := by
 intro hc
 have key : ∀ x, Sets.Conn (Sets.EP n ((ends l).take t)) v x → Down n l t v x := by
   intro x h
   induction h with
   | refl => exact .self
   | fwd _ e ih => exact .step ih e
   | bwd _ e ih =>
     obtain ⟨i, hi, hil, a0, a1⟩ := ep_take e
     cases ih with
     | self => exact absurd (ht i t hil hl (by rw [a1, e1])) (by omega)
     | step hd e2 =>
       obtain ⟨j, hj, hjl, b0, b1⟩ := ep_take e2
       have := ht i j hil hjl (by rw [a1, b1])
       subst this
       rw [a0] at b0
       have : _ = _ := Int.ofNat.inj b0
       rw [this]
       exact hd
 have h1 := (key u hc).ge hg
 have := (hg.2.2.2 t hl).1
 unfold PureV.okE at this
 omega
theorem tree_sets (hg : PureV.Good (n : Int) l) (ht : Tree l) : ∀ t, t ≤ l.length → Sets.sets (parT n l t) + t = n
 | 0, _ => by
   have h := (Sets.sets_yes n (ends l) 0 (Nat.zero_le _))
   have h2 : Sets.yesTo (List.range n) (ends l) 0 = 0 := rfl
   rw [h2] at h
   exact h
 | t + 1, h => by
   have ih := tree_sets hg ht t (by omega)
   obtain ⟨u, v, epe, hu, hv, huv, _, _⟩ := ends_in hg (t := t) (by omega)
   have hP := parT_part n l t
   have hs := Sets.sets_join hP (Sets.pe (ends l) t).1 (Sets.pe (ends l) t).2
   have hsu := parT_succ n l (t := t) (by omega)
   rw [epe] at hs hsu
   simp only at hs hsu
   have hlen := hP.len
   have e2 : Sets.pe (ends l) t = ((PureV.rdE l (t : Nat)).f0, (PureV.rdE l (t : Nat)).f1) := pe_ends (by omega)
   rw [epe] at e2
   simp only [Prod.mk.injEq] at e2
   have c : Sets.gt (parT n l t) u ≠ Sets.gt (parT n l t) v := fun c => by
     refine tree_apart hg ht (t := t) (by omega) e2.1.symm e2.2.symm ((hP.conn v hv).trans ?_)
     rw [← c]
     exact (hP.conn u hu).symm
   have ej := Sets.joinOf_two (m := parT n l t) (a := u) (b := v) (by omega) (by omega) c
   rw [ej] at hs hsu
   simp only [if_true] at hs
   dsimp only at hs hsu
   rw [hsu]
   omega
theorem sum_ge (c : Nat) (g : Nat → Int) (h : ∀ k, k < c → 1 ≤ g k) : (c : Int) ≤ ((List.range c).map g).sum := by
 induction c with
 | zero => simp
 | succ c ih =>
   rw [List.range_succ, List.map_append, List.sum_append]
   have := ih (fun k hk => h k (by omega))
   have := h c (by omega)
   simp
   omega
theorem parts_low (hm : IsMap n l r) : parts n l ≤ (facesL (stOf l r)).length + lone r := by
 obtain ⟨F, e, hF⟩ := hm.faces
 have h := hm.comp
 rw [e, List.length_map]
 have s3 := sum_count (parts n l) (fun L : List Nat => ch (ogOf n l) l (L.headD 0)) F (fun L hL => by
   have hr := hF.dec.ring L hL
   have hx : L.headD 0 ∈ L := by
     cases L with
     | nil => exact absurd rfl hr.1
     | cons a t => simp
   have := hF.perm.mem_iff.1 (List.mem_flatten.2 ⟨L, hL, hx⟩)
   rw [List.mem_range] at this
   exact h.lt hm this)
 have s4 : ((List.range (parts n l)).map fun k => (((List.range n).countP fun v => (gl r v).isEmpty && (Rot.cv (ogOf n l) v == k) : Nat) : Int)).sum = (lone r : Int) := by
   have := sum_count (parts n l) (fun v => Rot.cv (ogOf n l) v) ((List.range n).filter fun v => (gl r v).isEmpty) (fun v hv => (h.cv (List.mem_range.1 (List.mem_filter.1 hv).1)).2)
   rw [← List.countP_eq_length_filter, ← lone_count hm] at this
   rw [← this]
   refine sum_congr fun k _ => ?_
   rw [List.countP_filter]
   congr 1
   refine List.countP_congr fun v _ => ?_
   simp [and_comm]
 have s5 := sum_ge (parts n l) (fun k => ((F.countP fun L => ch (ogOf n l) l (L.headD 0) == k : Nat) : Int) + (((List.range n).countP fun v => (gl r v).isEmpty && (Rot.cv (ogOf n l) v == k) : Nat) : Int)) (fun k hk => by
   have hex : ∃ v, v < n ∧ Rot.cv (ogOf n l) v = k := by
     have hmk := (h.key (k : Int)).2 ⟨by omega, by omega⟩
     obtain ⟨v, hv, ev⟩ := List.mem_iff_getElem.1 hmk
     refine ⟨v, by rw [← h.len]; exact hv, ?_⟩
     unfold Rot.cv
     rw [gi_get0 hv, ev]
     rfl
   obtain ⟨v, hv, ev⟩ := hex
   by_cases hne : gl r v = []
   · have : 0 < (List.range n).countP fun v => (gl r v).isEmpty && (Rot.cv (ogOf n l) v == k) := countP_pos.2 ⟨v, List.mem_range.2 hv, by simp [hne, ev]⟩
     omega
   · obtain ⟨x, hx, ex⟩ := hm.row_of hv hne
     have hck : ch (ogOf n l) l x = k := by unfold ch; rw [ex, Int.toNat_natCast]; exact ev
     have hmem := hF.perm.mem_iff.2 (List.mem_range.2 hx)
     obtain ⟨L, hL, hxL⟩ := List.mem_flatten.1 hmem
     have hcl := ring_class (c := ch (ogOf n l) l) (hF.dec.ring L hL) (fun y hy => h.cls.stf hm (by have := hF.perm.mem_iff.1 (List.mem_flatten.2 ⟨L, hL, hy⟩); rwa [List.mem_range] at this)) x hxL
     have : 0 < F.countP fun L => ch (ogOf n l) l (L.headD 0) == k := countP_pos.2 ⟨L, hL, by rw [beq_iff_eq, ← hcl]; exact hck⟩
     omega)
 rw [sum_add, s3, s4] at s5
 omega
theorem tree_flat (hm : IsMap n l r) (ht : Tree l) : genus n l r = 0 ∧ (facesL (stOf l r)).length + lone r = parts n l := by
 have h1 := hm.genus_eq
 have h2 := parts_low hm
 have h3 := hm.genus_pos
 have h4 := tree_sets hm.good ht l.length (Nat.le_refl _)
 rw [← parts_sets] at h4
 omega
end
end Go.Proofs.Ytmikcfddipldnaa.Rot
