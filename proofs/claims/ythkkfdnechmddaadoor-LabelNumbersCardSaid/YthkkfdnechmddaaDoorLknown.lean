/- known: its walk. -/
import Derived.Test.YthkkfdnechmddaaDoorLsame
namespace Go.Proofs.YthkkfdnechmddaaDoor
open Go.RowKit Go.Hop
theorem in_laid (w : World) (cs : Array Value) (e : Nat) {n size : Nat} (h : cs.size = n * size) : In (w.alloc (.cells cs e)) (fun b => b = w.heap.size) size (some ⟨w.heap.size, 0, none⟩) n cs.toList :=
  ⟨by simp [h], fun _ => ⟨_, rfl, rfl, by simp, fun j u hu => by rw [Addr.add_lit, Nat.zero_add]; exact ((Blk.made w e cs).cell j).trans (by simpa using hu)⟩⟩
def la : Lb := ({ data := #[97] }, { data := #[49] })
def lb : Lb := ({ data := #[98] }, { data := #[50] })
def sab : ByteArray := { data := #[97, 61, 49, 44, 98, 61, 50] }
def sba : ByteArray := { data := #[98, 61, 50, 44, 97, 61, 49] }
theorem can_ab : can [la, lb] = [la, lb] ∧ can [lb, la] = [la, lb] := by
  have hs : [la, lb].Pairwise fun a b => slt b.1 a.1 = false := List.pairwise_cons.2 ⟨fun b hb => by rw [List.mem_singleton.1 hb]; kernel_rfl, List.pairwise_singleton ..⟩
  have n1 : ([la, lb].map (·.1)).Nodup := by decide +kernel
  have n2 : ([lb, la].map (·.1)).Nodup := by decide +kernel
  exact ⟨((⟨List.Perm.refl _, hs⟩ : ByName [la, lb] [la, lb]).can_ n1).symm, ((⟨List.Perm.swap _ _ _, hs⟩ : ByName [la, lb] [lb, la]).can_ n2).symm⟩
theorem right_ab : rightE [la, lb] = 0 ∧ rightE [lb, la] = 0 := ⟨by decide +kernel, by decide +kernel⟩
theorem text_ab : textOf [la, lb] = sab ∧ textOf [lb, la] = sab := by
  rw [text_zero right_ab.1, text_zero right_ab.2, can_ab.1, can_ab.2]
  exact ⟨by kernel_rfl, by kernel_rfl⟩
theorem labels_ab : labelsOf sab = [la, lb] ∧ labelsOf sba = [lb, la] := ⟨by kernel_rfl, by kernel_rfl⟩
theorem parse_ab : parseE sab = 0 ∧ parseL sab = [la, lb] := by
  have h := parse_yes (s := sab) (by rw [labels_ab.1]; exact right_ab.1) (by rw [labels_ab.1]; exact text_ab.1)
  rw [labels_ab.1] at h
  exact h
theorem parse_ba : parseE sba = 12 ∧ parseL sba = [] := parse_no2 (by rw [labels_ab.2, text_ab.2]; decide +kernel)
theorem small_ba : ∀ d ∈ [lb, la], d.1.size ≤ maxLen ∧ d.2.size ≤ maxLen := by
  intro d hd
  have h1 : d.1.size = 1 ∧ d.2.size = 1 := by
    simp only [List.mem_cons, List.not_mem_nil, or_false] at hd
    rcases hd with rfl | rfl <;> exact ⟨rfl, rfl⟩
  unfold maxLen; omega
theorem shard_one (s : ByteArray) : shardI s 1 = 0 := by unfold shardI; rw [show manyI 1 = 1 by decide]; exact Int.emod_one _
set_option maxRecDepth 100000 in
set_option maxHeartbeats 1000000 in
theorem known_any (w : World) : Calls Tryd.prog 10 #[] w fun e w' => e = .returned (.bool true) ∧ Grow w w' := by
  have hg0 : Grow w (w.alloc (.cells #[.string lb.1, .string lb.2, .string la.1, .string la.2] 25)) := (Below.refl _ _).alloc (Nat.le_refl _) _
  have hT := Text_any (w.alloc (.cells #[.string lb.1, .string lb.2, .string la.1, .string la.2] 25)) _ _ 2 2 [lb, la] (in_laid w #[.string lb.1, .string lb.2, .string la.1, .string la.2] 25 rfl) small_ba (by omega)
  rw [text_ab.2, right_ab.2] at hT
  have hP1 := fun w => Parse_any w sba (by decide +kernel)
  have hP2 := fun w => Parse_any w sab (by decide +kernel)
  rw [parse_ba.1, parse_ba.2] at hP1
  rw [parse_ab.1, parse_ab.2] at hP2
  have hsh := fun w => Shard_any w sab 1 (by unfold maxLen; decide +kernel) (by omega)
  rw [shard_one] at hsh
  have hn1 : ∀ w, Calls Tryd.prog 24 #[.string { data := #[97, 95, 48] }] w fun e w' => e = .returned (.bool true) ∧ w = w' := fun w => by
    have := Name_any w { data := #[97, 95, 48] } (by unfold maxLen; decide +kernel)
    rwa [show nameB { data := #[97, 95, 48] } = true by decide +kernel] at this
  have hn2 : ∀ w, Calls Tryd.prog 24 #[.string { data := #[65] }] w fun e w' => e = .returned (.bool false) ∧ w = w' := fun w => by
    have := Name_any w { data := #[65] } (by unfold maxLen; decide +kernel)
    rwa [show nameB { data := #[65] } = false by decide +kernel] at this
  have hp := fun w => Print_any w { data := #[] } (by unfold maxLen; decide +kernel)
  rw [show printI ({ data := #[] } : ByteArray).data.toList = 14695981039346656037 from rfl] at hp
  have hsab : (sab.toList == [97, 61, 49, 44, 98, 61, 50]) = true := by decide +kernel
  have hr := fun w => Right_any w (fun _ => False) none 0 0 [] In.nil (by simp) (by omega)
  rw [show rightE [] = 1 by decide +kernel] at hr
  go_enter Tryd.func10, Tryd.ntmps10
  go_wp2_with fail
  refine hT.mono ?_
  rintro e w1 ⟨rfl, hg⟩
  have hg1 := hg0.trans hg
  clear hT hg hg0
  go_wp2_with fail
  refine (hP1 w1).mono ?_
  rintro e w2 ⟨A2, c2, rfl, _, _, hg⟩
  have hg2 := hg1.trans hg
  clear hP1 hg hg1
  go_wp2_with fail
  refine (hP2 w2).mono ?_
  rintro e w3 ⟨A3, c3, rfl, hI, _, hg⟩
  have hg3 := hg2.trans hg
  clear hP2 hg hg2
  obtain ⟨ad, _, rfl, _, e1⟩ := lab_at hI (k := 1) (by decide)
  have ce := e1 w3 (Grow.refl _)
  change w3.cell? ⟨ad.block, ad.off + 2 + 1, none⟩ = some (.string { data := #[50] }) at ce
  clear e1 hI
  go_wp2_with fail
  refine (hsh w3).mono ?_
  rintro e w4 ⟨rfl, rfl⟩
  clear hsh
  go_wp2_with fail
  refine (hn1 w3).mono ?_
  rintro e w4 ⟨rfl, rfl⟩
  clear hn1
  go_wp2_with fail
  refine (hn2 w3).mono ?_
  rintro e w4 ⟨rfl, rfl⟩
  clear hn2
  go_wp2_with fail
  refine (hp w3).mono ?_
  rintro e w4 ⟨rfl, rfl⟩
  clear hp
  go_wp2_with fail
  refine (hr w3).mono ?_
  rintro e w4 ⟨rfl, hg⟩
  have hg4 := hg3.trans hg
  clear hr
  go_wp2_with fail
  go_ret
  exact ⟨rfl, hg4⟩
end Go.Proofs.YthkkfdnechmddaaDoor
