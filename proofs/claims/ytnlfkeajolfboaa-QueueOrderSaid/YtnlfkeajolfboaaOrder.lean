/- QueueOrder: its walk. -/
import Derived.Test.YtnlfkeajolfboaaOrdp
namespace Go.Proofs.Ytnlfkeajolfboaa
open Go.RowKit Go.Hop
theorem mapTy : MapTy Try.prog 42 2 3 .i64 .i64 := ⟨Try.underlying42, Try.underlying2, Try.underlying3, fun w => by
  obtain ⟨i, hi, hz, _⟩ := info_parts (e := 3) (size := 1) (bytes := 8) (z := .int .i64 0) (by kernel_rfl)
  simp [zeroValue, typeInfo, hi, hz]⟩
set_option maxRecDepth 100000 in
set_option maxHeartbeats 4000000 in
theorem order_any (w : World) (A : Option Addr) (n c : Nat) (l : List Int) (hr : Reads w w.heap.size 1 A n (l.map (Value.int .i64))) (z : Int) (hz : -9223372036854775808 ≤ z ∧ z ≤ 9223372036854775807) :
    Calls Try.prog 6 #[.slice A n c, .int .i64 z] w fun e w' => e = .returned (.bool true) ∧ Grow w w' := by
  have hmm := @run_makeMap Try.prog
  go_enter Try.func6, Try.ntmps6
  go_wp2_with (first
    | (go_at_call 8; refine (New_any _).mono ?_; rintro e w1 ⟨rfl, hD1, hg1⟩))
  obtain ⟨g, HD⟩ : ∃ g : Nat, Hid (g = w.heap.size) := ⟨_, rfl⟩
  rw [← HD.out] at hD1 ⊢
  have hs1 := hg1.size
  have hs0 : Solo (fun b => w.heap.size ≤ b) (QueueAt g [] 0) w1 := Solo.make (V := New w w1) hD1 (fun b hb => by omega) (fun b hb => hb)
  clear hD1
  go_wp2_with (go_at_call 14; refine (within_nat _ z 0 16 hz (by omega) (by omega) (by omega)).mono ?_; rintro e w4 ⟨m, hm0, hm1, rfl, rfl⟩)
  have hm16 : m ≤ 16 := by omega
  clear hm0 hm1
  go_loopw [7] (fun i wr => ∃ (k : Nat) (last : Int), k ≤ m ∧ i = .int .i64 (k : Int) ∧ last ≤ 2 * (k : Int) ∧ Solo (fun b => w.heap.size ≤ b) (QueueAt g (mk2 k) last) wr ∧ Below w.heap.size w wr) (fun i _ => m - (intOf i).toNat)
  case atStart => exact ⟨0, 0, by omega, rfl, by omega, hs0, hg1⟩
  case round =>
    obtain ⟨k, last, hkm, rfl, hlast, hs, hb⟩ := hrel
    by_cases hk : k < m
    · obtain ⟨x, wa, HX, HA, hda, hsa, hba, _⟩ := beside_delta hs hb ⟨#[97, 61, 49]⟩ (k + 1)
      have hu : IntKind.u64.wrap ((k : Int) + 1) = (k : Int) + 1 := by rw [wrap_u64]; omega
      rw [show ((k + 1 : Nat) : Int) = (k : Int) + 1 by omega] at HA
      clear hs
      go_wp2_with fail
      rw [← HA.out, ← HX.out]
      refine (hsa.call (Add_ok _ _ g (mk2 k) _ (2 * (k : Int) + 2) _ 1 1 [dn k] hda (by decide) (by decide) (by omega) (by omega) (by decide) (by decide) (by rw [mk2_len]; omega))).mono ?_
      rintro e w3 ⟨rfl, hj3, hs3⟩
      have hb3 := hba.trans (hj3.below (fun _ h => h.1) hba.size)
      rw [← mk2_succ] at hs3
      clear hj3 hsa hda hba
      go_wp2_with fail
      go_roundw
      case rel => exact ⟨k + 1, 2 * (k : Int) + 2, by omega, by go_num, by omega, Solo.wide hs3 fun b hb => hb.1, hb3⟩
      case measure => simp [intOf]; omega
    · obtain rfl : k = m := by omega
      have hkk : decide ((k : Int) < (k : Int)) = false := decide_eq_false (by omega)
      have hkk2 : decide (k < k) = false := decide_eq_false (by omega)
      have hgm : Grow wr (wr.alloc (.map #[] 0)) := (Below.refl wr.heap.size wr).alloc (Nat.le_refl _) _
      have hM0 : MapAt Try.prog 2 3 .i64 .i64 (wr.alloc (.map #[] 0)) wr.heap.size 0 (fun _ => 0) := MapAt.made wr
      obtain ⟨b, HB⟩ : ∃ b : Nat, Hid (b = wr.heap.size) := ⟨_, rfl⟩
      obtain ⟨wm, HM⟩ : ∃ wm : World, Hid (wm = wr.alloc (.map #[] 0)) := ⟨_, rfl⟩
      have hsm : wm.heap.size = wr.heap.size + 1 := by rw [HM.out]; simp
      have hbm := below_trans hb hgm hb.size
      go_wp2_with fail
      rw [← HB.out, ← HM.out]
      rw [← HM.out] at hgm hM0 hbm
      rw [← HB.out] at hM0
      have hwb : w.heap.size ≤ b := by rw [HB.out]; exact hb.size
      have hsO : Solo (Off w.heap.size b) (QueueAt g (mk2 k) last) wm := Solo.beside hs (QueueAt.framed _ _ _) hgm fun c hc h => ⟨hc, by have := HB.out; omega⟩
      have hs' : ∃ f : Int → Int, (∀ y, 0 ≤ f y ∧ f y ≤ 0) ∧ MapAt Try.prog 2 3 .i64 .i64 wm b 0 f ∧ Solo (Off w.heap.size b) (QueueAt g (left f (mk2 k)) last) wm := ⟨fun _ => 0, fun _ => ⟨Int.le_refl 0, Int.le_refl 0⟩, hM0, by
        have : left (fun _ => 0) (mk2 k) = mk2 k := List.filter_eq_self.2 fun _ _ => rfl
        rw [this]; exact hsO⟩
      obtain ⟨f0, hf0, hM, hS⟩ := hs'
      clear hsO hM0 hs hb hgm hsm
      go_loopw [9] (fun i wq => ∃ (j : Nat) (f : Int → Int), j ≤ n ∧ j ≤ 30 ∧ i = .int .i64 (j : Int) ∧ (∀ y, 0 ≤ f y ∧ f y ≤ (j : Int)) ∧ MapAt Try.prog 2 3 .i64 .i64 wq b j f ∧ Solo (Off w.heap.size b) (QueueAt g (left f (mk2 k)) last) wq ∧ Below w.heap.size w wq) (fun i _ => 30 - (intOf i).toNat)
      case atStart => exact ⟨0, f0, by omega, by omega, rfl, fun y => by have := hf0 y; exact ⟨this.1, by omega⟩, hM, hS, hbm⟩
      case round =>
        clear hf0 hM hS
        obtain ⟨j, f, hjn, hj30, rfl, hf, hM, hS, hbq⟩ := hrel
        by_cases hj : j < n ∧ j < 30
        · obtain ⟨hj1, hj2⟩ := hj
          obtain ⟨ad, u, rfl, hadB, hu, hc⟩ := hr.at_ hj1
          rw [List.getElem?_map] at hu
          obtain ⟨y, _, rfl⟩ := Option.map_eq_some_iff.1 hu
          clear hu
          have hc := (hbq.cell (p := ad.add j) (by rw [block_add]; exact hadB)).trans hc
          have ea := and63 y
          obtain ⟨s, HS⟩ : ∃ s : Int, Hid (s = y % 64) := ⟨_, rfl⟩
          have hsb : 0 ≤ s ∧ s ≤ 63 := by have := HS.out; omega
          rw [← HS.out] at ea
          have hlk := hM.look mapTy s (wf64 (by omega) (by omega))
          obtain ⟨hd1, hd2⟩ := left_done f k s (hf s).1
          have hfs := hf s
          have hbO : ¬ Off w.heap.size b b := fun h => h.2 rfl
          by_cases hA : 2 ≤ s
          · by_cases hB : s ≤ 2 * (k : Int)
            · cases hC : (s % 2 == 0) with
              | true =>
                have hC' : s % 2 = 0 := by simpa using hC
                cases hE : (f s == 0) with
                | true =>
                  have hin : inB f k s = true := by unfold inB; simp [*]
                  rw [hin] at hd1
                  have HDD := Lib.hid (And.intro hd1 hd2)
                  clear hd1 hd2 hin
                  go_wp2_with fail
                  refine (hS.call (Done_at _ g _ _ s true _ HDD.out)).mono ?_
                  rintro e w3 ⟨rfl, hj3, hs3⟩
                  have hb3 := hbq.trans (hj3.below (fun _ h => h.1) hbq.size)
                  have hM3 := hM.just hj3 hbO
                  have hlk3 := hM3.look mapTy s (wf64 (by omega) (by omega))
                  obtain ⟨w4, hmu, hM4, hj4⟩ := hM3.put mapTy s (f s + 1) (wf64 (by omega) (by omega)) (wf64 (by omega) (by omega)) (by unfold maxLen; omega)
                  have hb4 := hb3.trans (hj4.below (B := w.heap.size) (fun c h => by rw [h]; exact hwb) hb3.size)
                  have hs4 : Solo (Off w.heap.size b) (QueueAt g (left (fun y => if y = s then f s + 1 else f y) (mk2 k)) last) w4 := Solo.past hs3 (QueueAt.framed _ _ _) hj4 fun c h => by rw [show c = b from h]; exact hbO
                  have hf' : ∀ y, 0 ≤ (fun y => if y = s then f s + 1 else f y) y ∧ (fun y => if y = s then f s + 1 else f y) y ≤ ((j + 1 : Nat) : Int) := fun y => by
                    have := hf y
                    show 0 ≤ (if y = s then f s + 1 else f y) ∧ (if y = s then f s + 1 else f y) ≤ ((j + 1 : Nat) : Int)
                    split <;> omega
                  generalize (fun y => if y = s then f s + 1 else f y) = f' at hs4 hM4 hf'
                  clear hs3 hM3 hM hS hf HDD hj3 hj4 hlk hb3
                  go_wp2_with fail
                  go_roundw
                  case rel => exact ⟨j + 1, f', by omega, by omega, by go_num, hf', hM4, hs4, hb4⟩
                  case measure => simp [intOf]; omega
                | false =>
                  have hin : inB f k s = false := by unfold inB; simp [*]
                  rw [hin] at hd1
                  have HDD := Lib.hid (And.intro hd1 hd2)
                  clear hd1 hd2 hin
                  go_wp2_with fail
                  refine (hS.call (Done_at _ g _ _ s false _ HDD.out)).mono ?_
                  rintro e w3 ⟨rfl, hj3, hs3⟩
                  have hb3 := hbq.trans (hj3.below (fun _ h => h.1) hbq.size)
                  have hM3 := hM.just hj3 hbO
                  have hlk3 := hM3.look mapTy s (wf64 (by omega) (by omega))
                  obtain ⟨w4, hmu, hM4, hj4⟩ := hM3.put mapTy s (f s + 1) (wf64 (by omega) (by omega)) (wf64 (by omega) (by omega)) (by unfold maxLen; omega)
                  have hb4 := hb3.trans (hj4.below (B := w.heap.size) (fun c h => by rw [h]; exact hwb) hb3.size)
                  have hs4 : Solo (Off w.heap.size b) (QueueAt g (left (fun y => if y = s then f s + 1 else f y) (mk2 k)) last) w4 := Solo.past hs3 (QueueAt.framed _ _ _) hj4 fun c h => by rw [show c = b from h]; exact hbO
                  have hf' : ∀ y, 0 ≤ (fun y => if y = s then f s + 1 else f y) y ∧ (fun y => if y = s then f s + 1 else f y) y ≤ ((j + 1 : Nat) : Int) := fun y => by
                    have := hf y
                    show 0 ≤ (if y = s then f s + 1 else f y) ∧ (if y = s then f s + 1 else f y) ≤ ((j + 1 : Nat) : Int)
                    split <;> omega
                  generalize (fun y => if y = s then f s + 1 else f y) = f' at hs4 hM4 hf'
                  clear hs3 hM3 hM hS hf HDD hj3 hj4 hlk hb3
                  go_wp2_with fail
                  go_roundw
                  case rel => exact ⟨j + 1, f', by omega, by omega, by go_num, hf', hM4, hs4, hb4⟩
                  case measure => simp [intOf]; omega
              | false =>
                have hC' : ¬ s % 2 = 0 := by simpa using hC
                have hin : inB f k s = false := by unfold inB; simp [*]
                rw [hin] at hd1
                have HDD := Lib.hid (And.intro hd1 hd2)
                clear hd1 hd2 hin
                go_wp2_with fail
                refine (hS.call (Done_at _ g _ _ s false _ HDD.out)).mono ?_
                rintro e w3 ⟨rfl, hj3, hs3⟩
                have hb3 := hbq.trans (hj3.below (fun _ h => h.1) hbq.size)
                have hM3 := hM.just hj3 hbO
                have hlk3 := hM3.look mapTy s (wf64 (by omega) (by omega))
                obtain ⟨w4, hmu, hM4, hj4⟩ := hM3.put mapTy s (f s + 1) (wf64 (by omega) (by omega)) (wf64 (by omega) (by omega)) (by unfold maxLen; omega)
                have hb4 := hb3.trans (hj4.below (B := w.heap.size) (fun c h => by rw [h]; exact hwb) hb3.size)
                have hs4 : Solo (Off w.heap.size b) (QueueAt g (left (fun y => if y = s then f s + 1 else f y) (mk2 k)) last) w4 := Solo.past hs3 (QueueAt.framed _ _ _) hj4 fun c h => by rw [show c = b from h]; exact hbO
                have hf' : ∀ y, 0 ≤ (fun y => if y = s then f s + 1 else f y) y ∧ (fun y => if y = s then f s + 1 else f y) y ≤ ((j + 1 : Nat) : Int) := fun y => by
                  have := hf y
                  show 0 ≤ (if y = s then f s + 1 else f y) ∧ (if y = s then f s + 1 else f y) ≤ ((j + 1 : Nat) : Int)
                  split <;> omega
                generalize (fun y => if y = s then f s + 1 else f y) = f' at hs4 hM4 hf'
                clear hs3 hM3 hM hS hf HDD hj3 hj4 hlk hb3
                go_wp2_with fail
                go_roundw
                case rel => exact ⟨j + 1, f', by omega, by omega, by go_num, hf', hM4, hs4, hb4⟩
                case measure => simp [intOf]; omega
            · skip
              have hin : inB f k s = false := by unfold inB; simp [*]
              rw [hin] at hd1
              have HDD := Lib.hid (And.intro hd1 hd2)
              clear hd1 hd2 hin
              go_wp2_with fail
              refine (hS.call (Done_at _ g _ _ s false _ HDD.out)).mono ?_
              rintro e w3 ⟨rfl, hj3, hs3⟩
              have hb3 := hbq.trans (hj3.below (fun _ h => h.1) hbq.size)
              have hM3 := hM.just hj3 hbO
              have hlk3 := hM3.look mapTy s (wf64 (by omega) (by omega))
              obtain ⟨w4, hmu, hM4, hj4⟩ := hM3.put mapTy s (f s + 1) (wf64 (by omega) (by omega)) (wf64 (by omega) (by omega)) (by unfold maxLen; omega)
              have hb4 := hb3.trans (hj4.below (B := w.heap.size) (fun c h => by rw [h]; exact hwb) hb3.size)
              have hs4 : Solo (Off w.heap.size b) (QueueAt g (left (fun y => if y = s then f s + 1 else f y) (mk2 k)) last) w4 := Solo.past hs3 (QueueAt.framed _ _ _) hj4 fun c h => by rw [show c = b from h]; exact hbO
              have hf' : ∀ y, 0 ≤ (fun y => if y = s then f s + 1 else f y) y ∧ (fun y => if y = s then f s + 1 else f y) y ≤ ((j + 1 : Nat) : Int) := fun y => by
                have := hf y
                show 0 ≤ (if y = s then f s + 1 else f y) ∧ (if y = s then f s + 1 else f y) ≤ ((j + 1 : Nat) : Int)
                split <;> omega
              generalize (fun y => if y = s then f s + 1 else f y) = f' at hs4 hM4 hf'
              clear hs3 hM3 hM hS hf HDD hj3 hj4 hlk hb3
              go_wp2_with fail
              go_roundw
              case rel => exact ⟨j + 1, f', by omega, by omega, by go_num, hf', hM4, hs4, hb4⟩
              case measure => simp [intOf]; omega
          · skip
            have hin : inB f k s = false := by unfold inB; simp [*]
            rw [hin] at hd1
            have HDD := Lib.hid (And.intro hd1 hd2)
            clear hd1 hd2 hin
            go_wp2_with fail
            refine (hS.call (Done_at _ g _ _ s false _ HDD.out)).mono ?_
            rintro e w3 ⟨rfl, hj3, hs3⟩
            have hb3 := hbq.trans (hj3.below (fun _ h => h.1) hbq.size)
            have hM3 := hM.just hj3 hbO
            have hlk3 := hM3.look mapTy s (wf64 (by omega) (by omega))
            obtain ⟨w4, hmu, hM4, hj4⟩ := hM3.put mapTy s (f s + 1) (wf64 (by omega) (by omega)) (wf64 (by omega) (by omega)) (by unfold maxLen; omega)
            have hb4 := hb3.trans (hj4.below (B := w.heap.size) (fun c h => by rw [h]; exact hwb) hb3.size)
            have hs4 : Solo (Off w.heap.size b) (QueueAt g (left (fun y => if y = s then f s + 1 else f y) (mk2 k)) last) w4 := Solo.past hs3 (QueueAt.framed _ _ _) hj4 fun c h => by rw [show c = b from h]; exact hbO
            have hf' : ∀ y, 0 ≤ (fun y => if y = s then f s + 1 else f y) y ∧ (fun y => if y = s then f s + 1 else f y) y ≤ ((j + 1 : Nat) : Int) := fun y => by
              have := hf y
              show 0 ≤ (if y = s then f s + 1 else f y) ∧ (if y = s then f s + 1 else f y) ≤ ((j + 1 : Nat) : Int)
              split <;> omega
            generalize (fun y => if y = s then f s + 1 else f y) = f' at hs4 hM4 hf'
            clear hs3 hM3 hM hS hf HDD hj3 hj4 hlk hb3
            go_wp2_with fail
            go_roundw
            case rel => exact ⟨j + 1, f', by omega, by omega, by go_num, hf', hM4, hs4, hb4⟩
            case measure => simp [intOf]; omega
        · by_cases hj1 : j < n
          · obtain rfl : j = 30 := by omega
            obtain ⟨N, HN⟩ : ∃ N : Nat, Hid (N = (left f (mk2 k)).length) := ⟨_, rfl⟩
            have hN16 : N ≤ 16 := by have := left_le f k; have := HN.out; omega
            obtain ⟨M, HMM⟩ : ∃ M : Nat, Hid (min (left f (mk2 k)).length 4 = M) := ⟨_, rfl⟩
            have hMc : (N ≤ 4 ∧ M ≤ N ∧ N ≤ M) ∨ (4 < N ∧ M ≤ 4 ∧ 4 ≤ M) := by have := HMM.out; have := HN.out; omega
            go_wp2_with fail
            refine (solo_look hS fun V h => All_at _ g _ _ V h N HN.out.symm).mono ?_
            rintro e w9 ⟨A9, q9, rfl, hq9, ha9, hg9⟩
            have hb9 := below_trans hbq hg9 hbq.size
            have hS9 := hS.grow (QueueAt.framed _ _ _) hg9
            have hM9 := hM.grow hg9
            have hql9 := hq9.len
            have hcells : ∀ i : Nat, i < k → f (2 * (i : Int) + 2) = 0 → ∃ (a : Nat) (ad9 adD : Addr) (cD : Nat), a < N ∧ Hid (a = (left f (mk2 i)).length) ∧ Hid (A9 = some ad9) ∧ w9.cell? (ad9.add (a * 2)) = some (.int .i64 (2 * (i : Int) + 2)) ∧ w9.cell? ⟨(ad9.add (a * 2)).block, (ad9.add (a * 2)).off + 1, none⟩ = some (.slice (some adD) 1 cD) ∧ w9.cell? ⟨adD.block, adD.off + 1, none⟩ = some (.int .u64 ((i : Int) + 1)) := fun i hi h0 => by
              obtain ⟨r, hr⟩ := left_split f hi
              rw [h0] at hr
              have hr' : left f (mk2 k) = left f (mk2 i) ++ ([(2 * (i : Int) + 2, [dn i])] ++ r) := by rw [hr, List.append_assoc]; rfl
              have haN : (left f (mk2 i)).length < N := by rw [HN.out, hr']; simp
              obtain ⟨a1, k1, e1, _, _, c0, c1⟩ := hq9.row.rec_ (by omega) bat_len haN
              have habs : q9[(left f (mk2 i)).length].abs = (2 * (i : Int) + 2, [dn i]) := by
                have h3 : (q9.map Bat.abs)[(left f (mk2 i)).length]? = some q9[(left f (mk2 i)).length].abs := by rw [List.getElem?_map, List.getElem?_eq_getElem k1]; rfl
                rw [ha9, hr', List.getElem?_append_right (Nat.le_refl _), Nat.sub_self] at h3
                injection h3 with h3
                exact h3.symm
              have hin := hq9.all _ (List.getElem_mem k1)
              have c0 := c0 _ rfl
              have c1 := c1 0 _ rfl
              generalize q9[(left f (mk2 i)).length] = bb at habs hin c0 c1
              obtain ⟨sq, Ab, mb, cb, ds⟩ := bb
              injection habs with h4 h5
              dsimp only at h4 h5 c0 c1
              subst h4 h5
              have hd := hin.ds
              have hl := hd.len
              dsimp only at hd hl
              obtain rfl : 1 = mb := hl
              obtain ⟨adD, e2, _, _, hcD⟩ := hd.2 (by omega)
              subst e2
              have hx := hcD 1 _ rfl
              refine ⟨_, a1, adD, cb, haN, Lib.hid rfl, Lib.hid e1, c0, c1, ?_⟩
              rw [show (⟨adD.block, adD.off + 1, none⟩ : Addr) = adD.add 1 from rfl]
              exact hx
            clear hq9 ha9 hql9
            go_wp2_with fail
            go_loop [12, 14] (fun a i => ∃ i' : Nat, i' ≤ k ∧ i = .int .i64 (i' : Int) ∧ a = .int .i64 ((left f (mk2 i')).length : Int)) (fun _ i => k - (intOf i).toNat)
            case atStart => exact ⟨0, by omega, rfl, rfl⟩
            case round =>
              obtain ⟨i, hik, hri, hra⟩ := hrel
              subst hri hra
              by_cases hi : i < k
              · have hlk9 := hM9.look mapTy (2 * (i : Int) + 2) (wf64 (by omega) (by omega))
                have hls := left_succ f i
                have hf0 := (hf (2 * (i : Int) + 2)).1
                by_cases h0 : f (2 * (i : Int) + 2) = 0
                · obtain ⟨a, ad9, adD, cD, haN, HA, HA9, c0, c1, c2⟩ := hcells i hi h0
                  obtain rfl := HA9.out
                  rw [h0] at hlk9 hls
                  have hls1 : (left f (mk2 (i + 1))).length = a + 1 := by rw [hls, HA.out]; simp
                  have HL := Lib.hid hls1
                  rw [← HA.out]
                  have hu : IntKind.u64.wrap ((i : Int) + 1) = (i : Int) + 1 := by rw [wrap_u64]; omega
                  have hN16' : a < 16 := by omega
                  clear hls1 hls h0 hcells
                  go_wp2_with fail
                  go_round
                  case rel => exact ⟨i + 1, by omega, by go_num, by rw [HL.out]; go_num⟩
                  case measure => simp [intOf]; omega
                · have hlt : 0 < f (2 * (i : Int) + 2) := by omega
                  rw [if_neg (by simpa using h0), List.append_nil] at hls
                  have HL := Lib.hid hls
                  generalize f (2 * (i : Int) + 2) = v at hlk9 hlt
                  obtain ⟨a, HA⟩ : ∃ a : Nat, Hid (a = (left f (mk2 i)).length) := ⟨_, rfl⟩
                  rw [← HA.out]
                  clear hls h0 hcells hf0
                  go_wp2_with fail
                  go_round
                  case rel => exact ⟨i + 1, by omega, by go_num, by rw [HL.out, ← HA.out]⟩
                  case measure => simp [intOf]; omega
              · obtain rfl : i = k := by omega
                rw [← HN.out]
                clear hcells
                rcases hMc with ⟨hm1, hm2⟩ | ⟨hm1, hm2⟩
                · skip
                  have hmn : ((N : Int)) ≤ 4 := by omega
                  have hne : ((M : Int) == (N : Int)) = true := by rw [beq_iff_eq]; omega
                  go_wp2_with fail
                  refine (solo_look hS9 fun V h => Len_at _ g _ _ V h N HN.out.symm).mono ?_
                  rintro e w6 ⟨rfl, hw6⟩
                  subst hw6
                  go_wp2_with fail
                  go_at_call 16
                  refine (solo_look hS9 fun V h => Flight_at _ g _ _ V h M HMM.out).mono ?_
                  rintro e w7 ⟨A7, q7, rfl, hq7, ha7, hg7⟩
                  go_wp2_with (go_at_call 12; refine (known_any _).mono ?_; rintro e w8 ⟨rfl, hg8⟩)
                  go_ret
                  exact ⟨rfl, below_trans hb9 (hg7.trans hg8) hb9.size⟩
                · skip
                  have hmn : ¬ ((N : Int)) ≤ 4 := by omega
                  have hne : ((M : Int) == 4) = true := by rw [beq_iff_eq]; omega
                  go_wp2_with fail
                  refine (solo_look hS9 fun V h => Len_at _ g _ _ V h N HN.out.symm).mono ?_
                  rintro e w6 ⟨rfl, hw6⟩
                  subst hw6
                  go_wp2_with fail
                  go_at_call 16
                  refine (solo_look hS9 fun V h => Flight_at _ g _ _ V h M HMM.out).mono ?_
                  rintro e w7 ⟨A7, q7, rfl, hq7, ha7, hg7⟩
                  go_wp2_with (go_at_call 12; refine (known_any _).mono ?_; rintro e w8 ⟨rfl, hg8⟩)
                  go_ret
                  exact ⟨rfl, below_trans hb9 (hg7.trans hg8) hb9.size⟩
          · skip
            obtain ⟨N, HN⟩ : ∃ N : Nat, Hid (N = (left f (mk2 k)).length) := ⟨_, rfl⟩
            have hN16 : N ≤ 16 := by have := left_le f k; have := HN.out; omega
            obtain ⟨M, HMM⟩ : ∃ M : Nat, Hid (min (left f (mk2 k)).length 4 = M) := ⟨_, rfl⟩
            have hMc : (N ≤ 4 ∧ M ≤ N ∧ N ≤ M) ∨ (4 < N ∧ M ≤ 4 ∧ 4 ≤ M) := by have := HMM.out; have := HN.out; omega
            go_wp2_with fail
            refine (solo_look hS fun V h => All_at _ g _ _ V h N HN.out.symm).mono ?_
            rintro e w9 ⟨A9, q9, rfl, hq9, ha9, hg9⟩
            have hb9 := below_trans hbq hg9 hbq.size
            have hS9 := hS.grow (QueueAt.framed _ _ _) hg9
            have hM9 := hM.grow hg9
            have hql9 := hq9.len
            have hcells : ∀ i : Nat, i < k → f (2 * (i : Int) + 2) = 0 → ∃ (a : Nat) (ad9 adD : Addr) (cD : Nat), a < N ∧ Hid (a = (left f (mk2 i)).length) ∧ Hid (A9 = some ad9) ∧ w9.cell? (ad9.add (a * 2)) = some (.int .i64 (2 * (i : Int) + 2)) ∧ w9.cell? ⟨(ad9.add (a * 2)).block, (ad9.add (a * 2)).off + 1, none⟩ = some (.slice (some adD) 1 cD) ∧ w9.cell? ⟨adD.block, adD.off + 1, none⟩ = some (.int .u64 ((i : Int) + 1)) := fun i hi h0 => by
              obtain ⟨r, hr⟩ := left_split f hi
              rw [h0] at hr
              have hr' : left f (mk2 k) = left f (mk2 i) ++ ([(2 * (i : Int) + 2, [dn i])] ++ r) := by rw [hr, List.append_assoc]; rfl
              have haN : (left f (mk2 i)).length < N := by rw [HN.out, hr']; simp
              obtain ⟨a1, k1, e1, _, _, c0, c1⟩ := hq9.row.rec_ (by omega) bat_len haN
              have habs : q9[(left f (mk2 i)).length].abs = (2 * (i : Int) + 2, [dn i]) := by
                have h3 : (q9.map Bat.abs)[(left f (mk2 i)).length]? = some q9[(left f (mk2 i)).length].abs := by rw [List.getElem?_map, List.getElem?_eq_getElem k1]; rfl
                rw [ha9, hr', List.getElem?_append_right (Nat.le_refl _), Nat.sub_self] at h3
                injection h3 with h3
                exact h3.symm
              have hin := hq9.all _ (List.getElem_mem k1)
              have c0 := c0 _ rfl
              have c1 := c1 0 _ rfl
              generalize q9[(left f (mk2 i)).length] = bb at habs hin c0 c1
              obtain ⟨sq, Ab, mb, cb, ds⟩ := bb
              injection habs with h4 h5
              dsimp only at h4 h5 c0 c1
              subst h4 h5
              have hd := hin.ds
              have hl := hd.len
              dsimp only at hd hl
              obtain rfl : 1 = mb := hl
              obtain ⟨adD, e2, _, _, hcD⟩ := hd.2 (by omega)
              subst e2
              have hx := hcD 1 _ rfl
              refine ⟨_, a1, adD, cb, haN, Lib.hid rfl, Lib.hid e1, c0, c1, ?_⟩
              rw [show (⟨adD.block, adD.off + 1, none⟩ : Addr) = adD.add 1 from rfl]
              exact hx
            clear hq9 ha9 hql9
            go_wp2_with fail
            go_loop [12, 14] (fun a i => ∃ i' : Nat, i' ≤ k ∧ i = .int .i64 (i' : Int) ∧ a = .int .i64 ((left f (mk2 i')).length : Int)) (fun _ i => k - (intOf i).toNat)
            case atStart => exact ⟨0, by omega, rfl, rfl⟩
            case round =>
              obtain ⟨i, hik, hri, hra⟩ := hrel
              subst hri hra
              by_cases hi : i < k
              · have hlk9 := hM9.look mapTy (2 * (i : Int) + 2) (wf64 (by omega) (by omega))
                have hls := left_succ f i
                have hf0 := (hf (2 * (i : Int) + 2)).1
                by_cases h0 : f (2 * (i : Int) + 2) = 0
                · obtain ⟨a, ad9, adD, cD, haN, HA, HA9, c0, c1, c2⟩ := hcells i hi h0
                  obtain rfl := HA9.out
                  rw [h0] at hlk9 hls
                  have hls1 : (left f (mk2 (i + 1))).length = a + 1 := by rw [hls, HA.out]; simp
                  have HL := Lib.hid hls1
                  rw [← HA.out]
                  have hu : IntKind.u64.wrap ((i : Int) + 1) = (i : Int) + 1 := by rw [wrap_u64]; omega
                  have hN16' : a < 16 := by omega
                  clear hls1 hls h0 hcells
                  go_wp2_with fail
                  go_round
                  case rel => exact ⟨i + 1, by omega, by go_num, by rw [HL.out]; go_num⟩
                  case measure => simp [intOf]; omega
                · have hlt : 0 < f (2 * (i : Int) + 2) := by omega
                  rw [if_neg (by simpa using h0), List.append_nil] at hls
                  have HL := Lib.hid hls
                  generalize f (2 * (i : Int) + 2) = v at hlk9 hlt
                  obtain ⟨a, HA⟩ : ∃ a : Nat, Hid (a = (left f (mk2 i)).length) := ⟨_, rfl⟩
                  rw [← HA.out]
                  clear hls h0 hcells hf0
                  go_wp2_with fail
                  go_round
                  case rel => exact ⟨i + 1, by omega, by go_num, by rw [HL.out, ← HA.out]⟩
                  case measure => simp [intOf]; omega
              · obtain rfl : i = k := by omega
                rw [← HN.out]
                clear hcells
                rcases hMc with ⟨hm1, hm2⟩ | ⟨hm1, hm2⟩
                · skip
                  have hmn : ((N : Int)) ≤ 4 := by omega
                  have hne : ((M : Int) == (N : Int)) = true := by rw [beq_iff_eq]; omega
                  go_wp2_with fail
                  refine (solo_look hS9 fun V h => Len_at _ g _ _ V h N HN.out.symm).mono ?_
                  rintro e w6 ⟨rfl, hw6⟩
                  subst hw6
                  go_wp2_with fail
                  go_at_call 16
                  refine (solo_look hS9 fun V h => Flight_at _ g _ _ V h M HMM.out).mono ?_
                  rintro e w7 ⟨A7, q7, rfl, hq7, ha7, hg7⟩
                  go_wp2_with (go_at_call 12; refine (known_any _).mono ?_; rintro e w8 ⟨rfl, hg8⟩)
                  go_ret
                  exact ⟨rfl, below_trans hb9 (hg7.trans hg8) hb9.size⟩
                · skip
                  have hmn : ¬ ((N : Int)) ≤ 4 := by omega
                  have hne : ((M : Int) == 4) = true := by rw [beq_iff_eq]; omega
                  go_wp2_with fail
                  refine (solo_look hS9 fun V h => Len_at _ g _ _ V h N HN.out.symm).mono ?_
                  rintro e w6 ⟨rfl, hw6⟩
                  subst hw6
                  go_wp2_with fail
                  go_at_call 16
                  refine (solo_look hS9 fun V h => Flight_at _ g _ _ V h M HMM.out).mono ?_
                  rintro e w7 ⟨A7, q7, rfl, hq7, ha7, hg7⟩
                  go_wp2_with (go_at_call 12; refine (known_any _).mono ?_; rintro e w8 ⟨rfl, hg8⟩)
                  go_ret
                  exact ⟨rfl, below_trans hb9 (hg7.trans hg8) hb9.size⟩
end Go.Proofs.Ytnlfkeajolfboaa
