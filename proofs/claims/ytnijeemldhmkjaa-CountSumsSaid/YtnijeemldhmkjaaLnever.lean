/- CountNever: its walk. -/
import Derived.Test.YtnijeemldhmkjaaLall
namespace Go.Proofs.Ytnijeemldhmkjaa
open Go.RowKit Go.Hop
theorem add_srt : ∀ (l : List Dl) (q : Sm), Srt q → Srt (add q l) := by
  intro l
  induction l with
  | nil => intro q h; exact h
  | cons a l ih => intro q h; rw [add_cons]; exact ih _ (put_srt h _ _)
theorem keys_nodup {q : Sm} (h : Srt q) : (q.map (·.1)).Nodup := by
  unfold List.Nodup
  rw [List.pairwise_map]
  exact h.imp fun h e => by rw [e, slt_irr] at h; cases h
theorem keys_mem {q : Sm} (h : Srt q) (x : ByteArray) : x ∈ q.map (·.1) ↔ (lk q x).isSome = true := by
  constructor
  · intro hx
    obtain ⟨d, hd, rfl⟩ := List.mem_map.1 hx
    rw [srt_lk h hd]; rfl
  · intro hx
    obtain ⟨v, hv⟩ := Option.isSome_iff_exists.1 hx
    exact List.mem_map.2 ⟨_, lk_mem hv, rfl⟩
theorem keys_len {q r : Sm} (hq : Srt q) (hr : Srt r) (h : ∀ x, (lk q x).isSome = (lk r x).isSome) : q.length = r.length := by
  have : (q.map (·.1)).Perm (r.map (·.1)) := (List.perm_ext_iff_of_nodup (keys_nodup hq) (keys_nodup hr)).2 fun x => by rw [keys_mem hq, keys_mem hr, h]
  simpa using this.length_eq
theorem add_ge : ∀ (l : List Dl) (q : Sm), q.length ≤ (add q l).length := by
  intro l
  induction l with
  | nil => intro q; exact Nat.le_refl _
  | cons a l ih =>
    intro q
    rw [add_cons]
    refine Nat.le_trans ?_ (ih _)
    rw [put_length]
    split <;> omega
theorem mayE_is {q : Sm} (hs : Srt q) (l : List Dl) : mayE q l = 0 ↔ (∀ d ∈ l, gt q d.1 + tot l d.1 ≤ M64) ∧ (add q l).length ≤ 16 := by
  have h0 : ∀ d : Dl, gt ([] : Sm) d.1 = 0 := fun _ => rfl
  rw [add_length hs]
  unfold mayE
  cases ho : okRun q [] l with
  | true =>
    rw [if_pos rfl]
    have h1 := (okRun_is q l []).1 ho
    have h2 : ∀ d ∈ l, gt q d.1 + tot l d.1 ≤ M64 := fun d hd => by have := h1 d hd; rw [h0] at this; omega
    split
    · constructor
      · intro h; cases h
      · rintro ⟨_, h⟩; omega
    · exact ⟨fun _ => ⟨h2, by omega⟩, fun _ => rfl⟩
  | false =>
    rw [if_neg (by simp)]
    constructor
    · intro h; cases h
    · rintro ⟨h, _⟩
      have := (okRun_is q l []).2 fun d hd => by have := h d hd; rw [h0]; omega
      rw [ho] at this; cases this
/-- what may not be added may not be later -/
theorem never_later {q : Sm} (hs : Srt q) {l : List Dl} (h : mayE q l ≠ 0) (m : List Dl) : mayE (addM q m) l ≠ 0 := by
  unfold addM
  split
  · intro h2
    obtain ⟨h3, h4⟩ := (mayE_is (add_srt m q hs) l).1 h2
    refine h ((mayE_is hs l).2 ⟨fun d hd => ?_, ?_⟩)
    · have := h3 d hd
      rw [gt_add] at this
      omega
    · rw [← add_append] at h4
      have h5 : (add q (m ++ l)).length = (add q (l ++ m)).length := keys_len (add_srt _ q hs) (add_srt _ q hs) fun x => by
        rw [lk_add, lk_add, List.any_append, List.any_append, Bool.or_comm (m.any _)]
      rw [h5, add_append] at h4
      exact Nat.le_trans (add_ge m _) h4
  · exact h
theorem addM_eq {q : Sm} {l : List Dl} (h : mayE q l ≠ 0) : addM q l = q := by unfold addM; rw [if_neg h]
theorem SAt.past {U U' : Nat → Prop} {s : Nat} {q : Sm} {w w' : World} (h : SAt U s q w) (hk : ∀ b, U b → b < w.heap.size → w'.heap[b]? = w.heap[b]?) (hs : w.heap.size ≤ w'.heap.size) (hU : ∀ b, U b → b < w.heap.size → U' b) : SAt U' s q w' := by
  obtain ⟨V, h1, h2⟩ := h
  exact ⟨V, SumsAt.framed s q w w' V h1 fun b hb => hk b (h2 b hb).1 (h2 b hb).2, fun b hb => ⟨hU b (h2 b hb).1 (h2 b hb).2, Nat.lt_of_lt_of_le (h2 b hb).2 hs⟩⟩
theorem val_of (b : Rr) {n : Nat} (hn : n = b.l.length) : b.val = .slice b.A n b.c := by unfold Rr.val; rw [hn]
set_option maxRecDepth 100000 in
set_option maxHeartbeats 1000000 in
theorem never_any (w : World) (A0 : Option Addr) (n0 c0 : Nat) (l0 : List Int) (hl0 : Reads w w.heap.size 1 A0 n0 (l0.map (Value.int .i64))) (hx0 : ∀ z ∈ l0, -9223372036854775808 ≤ z ∧ z ≤ 9223372036854775807) (hn0 : n0 ≤ 9223372036854775807)
    (A1 : Option Addr) (n1 c1 : Nat) (l1 : List Int) (hl1 : Reads w w.heap.size 1 A1 n1 (l1.map (Value.int .i64))) (hx1 : ∀ z ∈ l1, -9223372036854775808 ≤ z ∧ z ≤ 9223372036854775807) (hn1 : n1 ≤ 9223372036854775807) :
    Calls Try.prog 3 #[.slice A0 n0 c0, .slice A1 n1 c1] w fun e w' => e = .returned (.bool true) ∧ Grow w w' := by
  have hI0 : In w (fun b => b < w.heap.size) 1 A0 n0 (l0.map (Value.int .i64)) := Reads.in_ hl0 (Nat.le_refl _) fun _ h => h
  have hI1 : In w (fun b => b < w.heap.size) 1 A1 n1 (l1.map (Value.int .i64)) := Reads.in_ hl1 (Nat.le_refl _) fun _ h => h
  go_enter Try.func3, Try.ntmps3
  go_wp2_with fail
  refine (New_at w).mono ?_
  rintro e w1 ⟨s, rfl, hS1, hg1⟩
  have hs1 := hg1.size
  have hrows := rows_any w1 A0 n0 c0 l0 (fun b => b < w.heap.size) (hI0.grow hg1) (fun b hb => by omega) hn0 hx0 30 (by omega)
  rw [show ((30 : Nat) : Int) = 30 from rfl] at hrows
  go_wp2_with fail
  refine hrows.mono ?_
  rintro e w2 ⟨v1, q1, rfl, hR1, hq1, hg2⟩
  clear hrows
  have hs2 := hg2.size
  have hrows := rows_any w2 A1 n1 c1 l1 (fun b => b < w.heap.size) (hI1.grow (below_trans hg1 hg2 hs1)) (fun b hb => by omega) hn1 hx1 30 (by omega)
  rw [show ((30 : Nat) : Int) = 30 from rfl] at hrows
  go_wp2_with fail
  refine hrows.mono ?_
  rintro e w3 ⟨v2, q2, rfl, hR2, hq2, hg3⟩
  clear hrows
  have hs3 := hg3.size
  have hR1' : RowsOwn w3 (New w1 w2) v1 q1 := hR1.keep fun b hb => hg3.block b hb.2
  obtain ⟨A2, c2, rfl, hI2, _, _⟩ := hR2.row.in_
  go_wp2_with (at_builtin; refine stay ?_)
  refine stay_out ?_
  refine wpList_own (V := _) sdE _ rfl (.tmp 15) (.tmp 17) rfl v1 q1.length (q1.flatMap Dr.cells) rfl hR1'.row w3.heap.size A2 q2.length c2 (q2.flatMap Dr.cells) rfl hI2.reads (fun u hu => by obtain ⟨b, _, hb⟩ := List.mem_flatMap.1 hu; rw [List.mem_singleton.1 hb]; rfl) (by omega) ?_
  intro v5 w5 hO5 hj5
  have hs5 := hj5.size
  obtain ⟨rq, HRQ⟩ : ∃ rq : List Rr, Hid (rq = (q1 ++ q2).map Dr.rr) := ⟨_, rfl⟩
  obtain ⟨A5, c5, rfl, hI5, hn5, hm5⟩ := hO5.in_
  have hrl : q1.length + q2.length = rq.length := by rw [HRQ.out]; simp
  rw [hrl] at hI5 hn5 ⊢
  have h60 : rq.length ≤ 60 := by omega
  have hRI : RowsIn w5 (fun b => New w1 w5 b) A5 rq := by
    refine ⟨?_, fun b hb => ?_⟩
    · have : rq.flatMap Rr.cells = q1.flatMap Dr.cells ++ q2.flatMap Dr.cells := by
        rw [HRQ.out, List.map_append, List.flatMap_append, List.flatMap_map, List.flatMap_map]; rfl
      rw [this]
      refine hI5.mono fun b hb => ?_
      rcases hb with hb | hb
      · exact ⟨hb.1.1, by have := hb.1.2; omega⟩
      · exact ⟨by have := hb.1; omega, hb.2⟩
    · rw [HRQ.out, List.map_append] at hb
      rcases List.mem_append.1 hb with hb | hb
      · have h1 := hR1'.ins
        obtain ⟨_, _, _, _, _, h1⟩ := h1
        have h2 := h1.all b hb
        obtain ⟨d, hd, rfl⟩ := List.mem_map.1 hb
        have hdg := (hR1'.all d hd).1
        have h3 := (hR1'.all d hd).2.own.in_
        obtain ⟨A9, c9, e9, h9, _⟩ := h3
        injection e9 with e9
        have h4 : In w3 (fun x => x = d.g) 2 d.rr.A d.rr.l.length (dcells d.rr.l) := by
          show In w3 (fun x => x = d.g) 2 (some ⟨d.g, 0, none⟩) d.l.length (dcells d.l)
          rw [e9]; exact h9
        exact ⟨(h4.just hj5 (fun x hx hv => hv.2 (by rw [hx]; exact List.mem_map.2 ⟨d, hd, rfl⟩))).mono fun x hx => by rw [hx]; exact ⟨hdg.1, by have := hdg.2; omega⟩, h2.ok, h2.small⟩
      · obtain ⟨_, _, _, _, _, h1⟩ := hR2.ins
        have h2 := h1.all b hb
        exact (h2.keep fun x hx hxl => hj5.block x hxl (fun hv => by have := hv.1.2; have := hx.1; omega)).mono fun x hx => ⟨by have := hx.1; omega, by have := hx.2; omega⟩
  have hg35 : Grow w1 w5 := Below.trans (below_trans hg2 hg3 hs2) (hj5.below (B := w1.heap.size) (fun b hb => hb.1.1) (by omega))
  have hS5 : SAt (fun b => w.heap.size ≤ b ∧ ¬ New w1 w5 b) s [] w5 := (hS1.within (U' := fun b => w.heap.size ≤ b ∧ ¬ New w1 w5 b) fun b hb hlt => ⟨hb, fun h => by have := h.1; omega⟩).grow hg35
  have hgw5 := below_trans hg1 hg35 hs1
  clear hR1 hR1' hR2 hI2 hI5 hO5 hj5 hg2 hg3 hS1 HRQ
  obtain ⟨N, HN⟩ : ∃ N : Nat, Hid (N = rq.length) := ⟨_, rfl⟩
  rw [← HN.out]
  go_wp2_with fail
  go_loopw [6, 20] (fun o i wr => ∃ (k : Nat) (Q : Sm) (bad : List Rr) (Vb : Nat → Prop), k ≤ rq.length ∧ i = .int .i64 (k : Int) ∧ bad.length ≤ k ∧ SAt (fun b => w.heap.size ≤ b ∧ ¬ New w1 w5 b ∧ ¬ Vb b) s Q wr ∧ Q.length ≤ 16 ∧ Own wr Vb 27 1 o bad.length (bad.flatMap Rr.cells) ∧ (∀ b ∈ bad, b ∈ rq ∧ mayE Q b.l ≠ 0) ∧ (∀ b, Vb b → w.heap.size ≤ b ∧ ¬ New w1 w5 b ∧ b < wr.heap.size) ∧ Just (fun b => w.heap.size ≤ b ∧ ¬ New w1 w5 b) w5 wr) (fun _ i _ => rq.length - (intOf i).toNat)
  case atStart => exact ⟨0, [], [], fun _ => False, by omega, rfl, by simp, hS5.mono fun b hb => ⟨hb.1, hb.2, fun h => h⟩, by simp, Own.nil, by simp, fun b h => h.elim, Just.of_grow (Grow.refl _)⟩
  case round =>
    clear hS5 hg35
    obtain ⟨k, Q, bad, Vb, hkn, rfl, hbk, hS, hQ, hO, hbad, hVb, hj⟩ := hrel
    have hsr := hj.size
    obtain ⟨Ab, cb, rfl, hIb, hnb, hmb⟩ := hO.in_
    by_cases hk : k < rq.length
    · have hkt : decide (k < N) = true := decide_eq_true (by rw [HN.out]; exact hk)
      have hkt2 : decide ((k : Int) < (N : Int)) = true := decide_eq_true (by have := HN.out; omega)
      have hRr := hRI.just hj fun b hb h => h.2 hb
      obtain ⟨ad, rfl, hc⟩ := row_at hRr hk
      have hc0 := hc wr (Grow.refl _)
      have hmem := List.getElem_mem hk
      have hri := hRr.all _ hmem
      generalize rq[k] = b at hc0 hri hmem
      obtain ⟨n9, hn9⟩ : ∃ n9, n9 = b.l.length := ⟨_, rfl⟩
      rw [val_of b hn9] at hc0
      have hadd := Add_at (D := New w1 w5) (c := b.c) hS (Grow.refl wr) (fun x hx => ⟨by omega, fun h => by have := h.2; omega, fun h => by have := (hVb x h).2.2; omega⟩) hri.ins (fun x hx => .inl fun h => h.2.1 hx) hri.ok (Nat.le_trans hri.small (by omega)) (by omega)
      have hQ2 := addM_length hS.right.srt hQ b.l
      have hQs := hS.right.srt
      have hlater := fun (x : Rr) (hx : mayE Q x.l ≠ 0) => never_later hQs hx b.l
      rw [← hn9] at hadd
      have HN9 := Lib.hid hn9
      have hkN : k < N := by have := HN.out; omega
      have hkN2 : ¬ N ≤ k := by omega
      clear hn9 hc hrl
      by_cases hE : mayE Q b.l = 0
      · rw [hE] at hadd
        go_wp2_with fail
        refine hadd.mono ?_
        rintro e w6 ⟨rfl, hS6, hj6⟩
        clear hadd
        have hs6 := hj6.size
        have hO6 : Own w6 Vb 27 1 (.slice Ab bad.length cb) bad.length (bad.flatMap Rr.cells) := hO.keep fun x hx => hj6.block x (hVb x hx).2.2 fun h => h.2.2 hx
        have hbad6 : ∀ x ∈ bad, x ∈ rq ∧ mayE (addM Q b.l) x.l ≠ 0 := fun x hx => ⟨(hbad x hx).1, hlater x (hbad x hx).2⟩
        have hj06 : Just (fun b => w.heap.size ≤ b ∧ ¬ New w1 w5 b) w5 w6 := hj.trans (hj6.imp fun x hx => ⟨hx.1, hx.2.1⟩)
        generalize addM Q b.l = Q6 at hS6 hbad6 hQ2
        clear hS hO hIb hbad hlater hj hj6 hRr hc0
        have hRI6 := hRI.just hj06 fun x hx h => h.2 hx
        obtain ⟨Ab, cb, eb, hIb, _, _⟩ := hO6.in_
        injection eb with eb1 eb2 eb3
        subst eb1 eb3
        have hRb : RowsIn w6 (fun _ => True) Ab bad := ⟨hIb.mono fun _ _ => trivial, fun x hx => (hRI6.all x (hbad6 x hx).1).mono fun _ _ => trivial⟩
        go_wp2_with fail
        go_loopw [34] (fun i wz => ∃ j : Nat, j ≤ bad.length ∧ i = .int .i64 (j : Int) ∧ Grow w6 wz) (fun i _ => bad.length - (intOf i).toNat)
        case atStart => exact ⟨0, by omega, rfl, Grow.refl _⟩
        case round =>
          obtain ⟨j, hjn, rfl, hgz⟩ := hrel
          by_cases hj : j < bad.length
          · have hjt : decide ((j : Int) < (bad.length : Int)) = true := decide_eq_true (by omega)
            obtain ⟨ad2, rfl, hd⟩ := row_at (hRb.grow hgz) hj
            have hd0 := hd _ (Grow.refl _)
            have hm2 := List.getElem_mem hj
            have hri2 := (hRb.grow hgz).all _ hm2
            have hne := (hbad6 _ hm2).2
            generalize bad[j] = b2 at hd0 hri2 hne
            obtain ⟨n8, hn8⟩ : ∃ n8, n8 = b2.l.length := ⟨_, rfl⟩
            rw [val_of b2 hn8] at hd0
            have hmay := May_at (c := b2.c) (hS6.grow hgz) hri2.ins hri2.ok (Nat.le_trans hri2.small (by omega)) (by omega)
            rw [← hn8] at hmay
            have hne' : (mayE Q6 b2.l == 0) = false := beq_eq_false_iff_ne.2 hne
            generalize mayE Q6 b2.l = E2 at hmay hne hne'
            clear hn8 hd hri2 hRb
            go_wp2_with fail
            refine hmay.mono ?_
            rintro e w9 ⟨rfl, hg9⟩
            clear hmay
            go_wp2_with fail
            go_roundw
            case rel => exact ⟨j + 1, by omega, by go_num, hgz.trans hg9⟩
            case measure => simp [intOf]; omega
          · obtain rfl : j = bad.length := by omega
            have hjt : decide ((bad.length : Int) < (bad.length : Int)) = false := decide_eq_false (by omega)
            go_wp2_with fail
            go_roundw
            case rel => exact ⟨k + 1, Q6, bad, Vb, by omega, by go_num, by omega, hS6.grow hgz, hQ2, hO6.keep fun x hx => hgz.block x (by have := (hVb x hx).2.2; omega), hbad6, fun x hx => ⟨(hVb x hx).1, (hVb x hx).2.1, by have := (hVb x hx).2.2; have := hgz.size; omega⟩, hj06.trans (Just.of_grow hgz)⟩
            case measure => simp [intOf]; omega
      · have hE' : (mayE Q b.l == 0) = false := beq_eq_false_iff_ne.2 hE
        rw [addM_eq hE] at hadd hQ2
        have hEb := hE
        generalize mayE Q b.l = E at hadd hE hE'
        go_wp2_with fail
        refine hadd.mono ?_
        rintro e w6 ⟨rfl, hS6, hj6⟩
        clear hadd
        have hs6 := hj6.size
        have hO6 : Own w6 Vb 27 1 (.slice Ab bad.length cb) bad.length (bad.flatMap Rr.cells) := hO.keep fun x hx => hj6.block x (hVb x hx).2.2 fun h => h.2.2 hx
        have hj06 : Just (fun b => w.heap.size ≤ b ∧ ¬ New w1 w5 b) w5 w6 := hj.trans (hj6.imp fun x hx => ⟨hx.1, hx.2.1⟩)
        have hga : Grow w6 (w6.alloc (.cells #[.slice b.A n9 b.c] 27)) := (Below.refl _ _).alloc (Nat.le_refl _) _
        clear hS hO hIb hlater hj hj6 hRr hc0
        go_wp2_with (at_builtin; refine stay ?_)
        refine stay_out ?_
        refine wpList_own (V := Vb) sdE _ rfl (.tmp 28) (.tmp 30) rfl (.slice Ab bad.length cb) bad.length (bad.flatMap Rr.cells) rfl (hO6.grow (fun x hx => by have := (hVb x hx).2.2; omega) hga) (w6.heap.size + 1) (some ⟨w6.heap.size, 0, none⟩) 1 1 ([b].flatMap Rr.cells) rfl (by have h := reads_laid w6 #[.slice b.A n9 b.c] 27 (0, 0) (n := 1) (size := 1) rfl _ rfl; simpa [Rr.cells, val_of b HN9.out] using h) (rcells_one _) (by omega) ?_
        intro v7 w7 hO7 hj7
        have hs7 := hj7.size
        simp at hs7
        rw [show bad.length + 1 = (bad ++ [b]).length by simp, ← List.flatMap_append] at hO7
        have hbad7 : ∀ x ∈ bad ++ [b], x ∈ rq ∧ mayE Q x.l ≠ 0 := fun x hx => by
          rcases List.mem_append.1 hx with hx | hx
          · exact hbad x hx
          · rw [List.mem_singleton.1 hx]; exact ⟨hmem, hEb⟩
        have hV7 : ∀ x, Ext Vb (w6.alloc (.cells #[.slice b.A n9 b.c] 27)) w7 x → w.heap.size ≤ x ∧ ¬ New w1 w5 x ∧ x < w7.heap.size := fun x hx => by
          rcases hx with hx | hx
          · exact ⟨(hVb x hx).1, (hVb x hx).2.1, by have := (hVb x hx).2.2; omega⟩
          · have h1 := hx.1
            simp at h1
            exact ⟨by omega, fun h => by have := h.2; omega, hx.2⟩
        have hS7 : SAt (fun x => w.heap.size ≤ x ∧ ¬ New w1 w5 x ∧ ¬ Ext Vb (w6.alloc (.cells #[.slice b.A n9 b.c] 27)) w7 x) s Q w7 := hS6.past (fun x hx hxl => (hj7.block x (by simp; omega) hx.2.2).trans (hga.block x hxl)) (by omega) fun x hx hxl => ⟨hx.1, hx.2.1, fun h => by
          rcases h with h | h
          · exact hx.2.2 h
          · have h1 := h.1
            simp at h1
            omega⟩
        have hj07 : Just (fun b => w.heap.size ≤ b ∧ ¬ New w1 w5 b) w5 w7 := (hj06.trans (Just.of_grow hga)).trans (hj7.imp fun x hx => ⟨(hVb x hx).1, (hVb x hx).2.1⟩)
        have hbl : (bad ++ [b]).length ≤ k + 1 := by simp; omega
        generalize Ext Vb (w6.alloc (.cells #[.slice b.A n9 b.c] 27)) w7 = Vb7 at hO7 hV7 hS7
        clear hj7 hO6 hS6 hj06 hga hbad hVb
        generalize bad ++ [b] = bad7 at hO7 hbad7 hbl
        have hRI6 := hRI.just hj07 fun x hx h => h.2 hx
        obtain ⟨Ab, cb, rfl, hIb, _, _⟩ := hO7.in_
        have hRb : RowsIn w7 (fun _ => True) Ab bad7 := ⟨hIb.mono fun _ _ => trivial, fun x hx => (hRI6.all x (hbad7 x hx).1).mono fun _ _ => trivial⟩
        go_wp2_with fail
        go_loopw [34] (fun i wz => ∃ j : Nat, j ≤ bad7.length ∧ i = .int .i64 (j : Int) ∧ Grow w7 wz) (fun i _ => bad7.length - (intOf i).toNat)
        case atStart => exact ⟨0, by omega, rfl, Grow.refl _⟩
        case round =>
          obtain ⟨j, hjn, rfl, hgz⟩ := hrel
          by_cases hj : j < bad7.length
          · have hjt : decide ((j : Int) < (bad7.length : Int)) = true := decide_eq_true (by omega)
            obtain ⟨ad2, rfl, hd⟩ := row_at (hRb.grow hgz) hj
            have hd0 := hd _ (Grow.refl _)
            have hm2 := List.getElem_mem hj
            have hri2 := (hRb.grow hgz).all _ hm2
            have hne := (hbad7 _ hm2).2
            generalize bad7[j] = b2 at hd0 hri2 hne
            obtain ⟨n8, hn8⟩ : ∃ n8, n8 = b2.l.length := ⟨_, rfl⟩
            rw [val_of b2 hn8] at hd0
            have hmay := May_at (c := b2.c) (hS7.grow hgz) hri2.ins hri2.ok (Nat.le_trans hri2.small (by omega)) (by omega)
            rw [← hn8] at hmay
            have hne' : (mayE Q b2.l == 0) = false := beq_eq_false_iff_ne.2 hne
            generalize mayE Q b2.l = E2 at hmay hne hne'
            clear hn8 hd hri2 hRb
            go_wp2_with fail
            refine hmay.mono ?_
            rintro e w9 ⟨rfl, hg9⟩
            clear hmay
            go_wp2_with fail
            go_roundw
            case rel => exact ⟨j + 1, by omega, by go_num, hgz.trans hg9⟩
            case measure => simp [intOf]; omega
          · obtain rfl : j = bad7.length := by omega
            have hjt : decide ((bad7.length : Int) < (bad7.length : Int)) = false := decide_eq_false (by omega)
            go_wp2_with fail
            go_roundw
            case rel => exact ⟨k + 1, Q, bad7, Vb7, by omega, by go_num, by omega, hS7.grow hgz, hQ2, hO7.keep fun x hx => hgz.block x (hV7 x hx).2.2, hbad7, fun x hx => ⟨(hV7 x hx).1, (hV7 x hx).2.1, by have := (hV7 x hx).2.2; have := hgz.size; omega⟩, hj07.trans (Just.of_grow hgz)⟩
            case measure => simp [intOf]; omega
    · obtain rfl : k = rq.length := by omega
      have hkt : decide (rq.length < N) = false := decide_eq_false (by have := HN.out; omega)
      have hkt2 : decide ((rq.length : Int) < (N : Int)) = false := decide_eq_false (by have := HN.out; omega)
      go_wp2_with fail
      refine (known_any _).mono ?_
      rintro e w8 ⟨rfl, hg8⟩
      go_wp2_with fail
      go_ret
      have hgr := Below.trans hgw5 (hj.below (B := w.heap.size) (fun b hb => hb.1) (by omega))
      exact ⟨rfl, below_trans hgr hg8 hgr.size⟩
end Go.Proofs.Ytnijeemldhmkjaa
