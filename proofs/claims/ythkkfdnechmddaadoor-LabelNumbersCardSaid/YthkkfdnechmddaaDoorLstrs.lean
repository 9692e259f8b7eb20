/- strings.Join, Split at a byte, Cut at a byte. -/
import Derived.Test.YthkkfdnechmddaaDoorLplain
import Derived.Shelf.Strings.SplitCore
import Derived.Shelf.Strings.Search3
import Derived.Shelf.Strings.Count
import Derived.Shelf.Strings.OnBuilder
namespace Go.Proofs.YthkkfdnechmddaaDoor
open Go.Shelf
def joinL_ren : Go.Shelf.Ren := ⟨fun | 156 => 29 | 165 => 39 | 166 => 40 | 169 => 41 | 240 => 46 | 241 => 47 | 276 => 54 | 277 => 55 | n => n, fun | 31 => 22 | 9 => 9 | 3 => 3 | 4 => 4 | 0 => 0 | 20 => 20 | 72 => 62 | 76 => 66 | 70 => 59 | 37 => 60 | 75 => 65 | 127 => 70 | 164 => 74 | 5 => 5 | 80 => 46 | n => n, fun | n => n⟩
theorem joinL : Go.Proofs.Lays.n156 Tryd.prog joinL_ren := {
  mixed := by kernel_rfl
  f156 := Tryd.func29.trans (congrArg some (by kernel_rfl))
  f165 := Tryd.func39.trans (congrArg some (by kernel_rfl))
  f166 := Tryd.func40.trans (congrArg some (by kernel_rfl))
  f169 := Tryd.func41.trans (congrArg some (by kernel_rfl))
  f240 := Tryd.func46.trans (congrArg some (by kernel_rfl))
  f241 := Tryd.func47.trans (congrArg some (by kernel_rfl))
  f276 := Tryd.func54.trans (congrArg some (by kernel_rfl))
  f277 := Tryd.func55.trans (congrArg some (by kernel_rfl))
  t0 := Tryd.underlying0
  a0 := Tryd.isAgg0
  z0 := Tryd.sizeOf0
  v0 := Tryd.zeroValue0
  t3 := Tryd.underlying3
  a3 := Tryd.isAgg3
  z3 := Tryd.sizeOf3
  v3 := Tryd.zeroValue3
  t4 := Tryd.underlying4
  a4 := Tryd.isAgg4
  z4 := Tryd.sizeOf4
  v4 := Tryd.zeroValue4
  t9 := Tryd.underlying9
  a9 := Tryd.isAgg9
  z9 := Tryd.sizeOf9
  v9 := Tryd.zeroValue9
  t20 := Tryd.underlying20
  a20 := Tryd.isAgg20
  z20 := Tryd.sizeOf20
  v20 := Tryd.zeroValue20
  t31 := Tryd.underlying22
  a31 := Tryd.isAgg22
  z31 := Tryd.sizeOf22
  v31 := Tryd.zeroValue22
  t37 := Tryd.underlying60
  a37 := Tryd.isAgg60
  z37 := Tryd.sizeOf60
  v37 := Tryd.zeroValue60
  t70 := Tryd.underlying59
  a70 := Tryd.isAgg59
  z70 := Tryd.sizeOf59
  v70 := Tryd.zeroValue59
  t72 := Tryd.underlying62
  a72 := Tryd.isAgg62
  z72 := Tryd.sizeOf62
  v72 := Tryd.zeroValue62
  t75 := Tryd.underlying65
  a75 := Tryd.isAgg65
  z75 := Tryd.sizeOf65
  v75 := Tryd.zeroValue65
  t76 := Tryd.underlying66
  a76 := Tryd.isAgg66
  z76 := Tryd.sizeOf66
  v76 := Tryd.zeroValue66
  t127 := Tryd.underlying70
  a127 := Tryd.isAgg70
  z127 := Tryd.sizeOf70
  v127 := Tryd.zeroValue70
  t164 := Tryd.underlying74
  a164 := Tryd.isAgg74
  z164 := Tryd.sizeOf74
  v164 := Tryd.zeroValue74 }
def genSplitL_ren : Go.Shelf.Ren := ⟨fun | 221 => 42 | 268 => 48 | 138 => 49 | 143 => 50 | 195 => 56 | 197 => 57 | 218 => 58 | 219 => 51 | 260 => 64 | 217 => 59 | 225 => 60 | 224 => 61 | 267 => 62 | 266 => 65 | 314 => 66 | n => n, fun | 9 => 9 | 3 => 3 | 31 => 22 | 4 => 4 | 0 => 0 | 105 => 78 | 21 => 21 | 5 => 5 | 46 => 81 | 119 => 85 | 139 => 88 | 138 => 87 | 146 => 83 | 51 => 82 | n => n, fun | 1 => 0 | 3 => 1 | 4 => 2 | n => n⟩
theorem genSplitL : Go.Proofs.Lays.n221 Tryd.prog genSplitL_ren := {
  mixed := by kernel_rfl
  f138 := Tryd.func49.trans (congrArg some (by kernel_rfl))
  f143 := Tryd.func50.trans (congrArg some (by kernel_rfl))
  f195 := Tryd.func56.trans (congrArg some (by kernel_rfl))
  f197 := Tryd.func57.trans (congrArg some (by kernel_rfl))
  f217 := Tryd.func59.trans (congrArg some (by kernel_rfl))
  f218 := Tryd.func58.trans (congrArg some (by kernel_rfl))
  f219 := Tryd.func51.trans (congrArg some (by kernel_rfl))
  f221 := Tryd.func42.trans (congrArg some (by kernel_rfl))
  f224 := Tryd.func61.trans (congrArg some (by kernel_rfl))
  f225 := Tryd.func60.trans (congrArg some (by kernel_rfl))
  f260 := Tryd.func64.trans (congrArg some (by kernel_rfl))
  f266 := Tryd.func65.trans (congrArg some (by kernel_rfl))
  f267 := Tryd.func62.trans (congrArg some (by kernel_rfl))
  f268 := Tryd.func48.trans (congrArg some (by kernel_rfl))
  f314 := Tryd.func66.trans (congrArg some (by kernel_rfl))
  t0 := Tryd.underlying0
  a0 := Tryd.isAgg0
  z0 := Tryd.sizeOf0
  v0 := Tryd.zeroValue0
  t3 := Tryd.underlying3
  a3 := Tryd.isAgg3
  z3 := Tryd.sizeOf3
  v3 := Tryd.zeroValue3
  t4 := Tryd.underlying4
  a4 := Tryd.isAgg4
  z4 := Tryd.sizeOf4
  v4 := Tryd.zeroValue4
  t5 := Tryd.underlying5
  a5 := Tryd.isAgg5
  z5 := Tryd.sizeOf5
  v5 := Tryd.zeroValue5
  t9 := Tryd.underlying9
  a9 := Tryd.isAgg9
  z9 := Tryd.sizeOf9
  v9 := Tryd.zeroValue9
  t21 := Tryd.underlying21
  a21 := Tryd.isAgg21
  z21 := Tryd.sizeOf21
  v21 := Tryd.zeroValue21
  t31 := Tryd.underlying22
  a31 := Tryd.isAgg22
  z31 := Tryd.sizeOf22
  v31 := Tryd.zeroValue22
  t46 := Tryd.underlying81
  a46 := Tryd.isAgg81
  z46 := Tryd.sizeOf81
  v46 := Tryd.zeroValue81
  t51 := Tryd.underlying82
  a51 := Tryd.isAgg82
  z51 := Tryd.sizeOf82
  v51 := Tryd.zeroValue82
  t105 := Tryd.underlying78
  a105 := Tryd.isAgg78
  z105 := Tryd.sizeOf78
  v105 := Tryd.zeroValue78
  t119 := Tryd.underlying85
  a119 := Tryd.isAgg85
  z119 := Tryd.sizeOf85
  t138 := Tryd.underlying87
  a138 := Tryd.isAgg87
  z138 := Tryd.sizeOf87
  v138 := Tryd.zeroValue87
  t139 := Tryd.underlying88
  a139 := Tryd.isAgg88
  z139 := Tryd.sizeOf88
  v139 := Tryd.zeroValue88
  t146 := Tryd.underlying83
  a146 := Tryd.isAgg83
  z146 := Tryd.sizeOf83
  v146 := Tryd.zeroValue83
  g1 := by kernel_rfl
  g3 := by kernel_rfl
  g4 := by kernel_rfl }
def cutL_ren : Go.Shelf.Ren := ⟨fun | 145 => 31 | 220 => 43 | 219 => 51 | 217 => 59 | 225 => 60 | 224 => 61 | 267 => 62 | 266 => 65 | 314 => 66 | n => n, fun | 9 => 9 | 4 => 4 | 59 => 52 | 3 => 3 | 5 => 5 | 46 => 81 | 146 => 83 | 51 => 82 | n => n, fun | 1 => 0 | n => n⟩
theorem cutL : Go.Proofs.Lays.n145 Tryd.prog cutL_ren := {
  mixed := by kernel_rfl
  f145 := Tryd.func31.trans (congrArg some (by kernel_rfl))
  f217 := Tryd.func59.trans (congrArg some (by kernel_rfl))
  f219 := Tryd.func51.trans (congrArg some (by kernel_rfl))
  f220 := Tryd.func43.trans (congrArg some (by kernel_rfl))
  f224 := Tryd.func61.trans (congrArg some (by kernel_rfl))
  f225 := Tryd.func60.trans (congrArg some (by kernel_rfl))
  f266 := Tryd.func65.trans (congrArg some (by kernel_rfl))
  f267 := Tryd.func62.trans (congrArg some (by kernel_rfl))
  f314 := Tryd.func66.trans (congrArg some (by kernel_rfl))
  t3 := Tryd.underlying3
  a3 := Tryd.isAgg3
  z3 := Tryd.sizeOf3
  v3 := Tryd.zeroValue3
  t4 := Tryd.underlying4
  a4 := Tryd.isAgg4
  z4 := Tryd.sizeOf4
  v4 := Tryd.zeroValue4
  t5 := Tryd.underlying5
  a5 := Tryd.isAgg5
  z5 := Tryd.sizeOf5
  v5 := Tryd.zeroValue5
  t9 := Tryd.underlying9
  a9 := Tryd.isAgg9
  z9 := Tryd.sizeOf9
  v9 := Tryd.zeroValue9
  t46 := Tryd.underlying81
  a46 := Tryd.isAgg81
  z46 := Tryd.sizeOf81
  v46 := Tryd.zeroValue81
  t51 := Tryd.underlying82
  a51 := Tryd.isAgg82
  z51 := Tryd.sizeOf82
  v51 := Tryd.zeroValue82
  t59 := Tryd.underlying52
  a59 := Tryd.isAgg52
  z59 := Tryd.sizeOf52
  v59 := Tryd.zeroValue52
  t146 := Tryd.underlying83
  a146 := Tryd.isAgg83
  z146 := Tryd.sizeOf83
  v146 := Tryd.zeroValue83
  g1 := by kernel_rfl }
theorem joinX : Go.Proofs.Builder.Extra Tryd.prog joinL_ren := {
  sizeBuilder := by kernel_rfl
  liesBuilder := by kernel_rfl
  t5 := Tryd.underlying5
  a5 := Tryd.isAgg5
  z5 := Tryd.sizeOf5
  v5 := Tryd.zeroValue5
  infoByte := by kernel_rfl
  cellsByte := by kernel_rfl
  sizeByte := by kernel_rfl
  neB5 := by decide }
end Go.Proofs.YthkkfdnechmddaaDoor
namespace Go.Proofs.YthkkfdnechmddaaDoor
open Go.RowKit Go.Hop Go.Shelf
theorem Join_any (w : World) (V : Nat → Prop) (A : Option Addr) (n c : Nat) (xs : List ByteArray) (sep : ByteArray) (h : In w V 1 A n (xs.map Value.string)) (hn : n ≤ c) (hn2 : n ≤ 140737488355328) (hlen : (Lib.join (xs.map (·.data.toList)) sep.data.toList).length ≤ 140737488355328) :
    Calls Tryd.prog 29 #[.slice A n c, .string sep] w fun e w' => e = .returned (.string (mk (Lib.join (xs.map (·.data.toList)) sep.data.toList))) ∧ Grow w w' := by
  have hl : xs.length = n := by have := h.1; simpa using this
  rcases Nat.eq_zero_or_pos n with h0 | h0
  · subst h0
    obtain rfl : xs = [] := List.eq_nil_of_length_eq_zero hl
    refine (Go.Proofs.Any.strings_Join_none joinL joinX A c sep w).mono ?_
    rintro e w' ⟨he, rfl⟩
    exact ⟨he, Grow.refl _⟩
  · obtain ⟨ad, rfl, _, hb, hc⟩ := h.2 h0
    obtain ⟨bk, o, m⟩ := ad
    have hm : m = none := by
      have h1 := hc 0 (.string xs[0]) (by rw [List.getElem?_map, List.getElem?_eq_getElem (by omega)]; rfl)
      cases m with
      | none => rfl
      | some m =>
        simp only [World.cell?, Addr.add] at h1
        split at h1 <;> simp at h1
    subst hm
    subst hl
    exact Go.Proofs.Any.strings_Join joinL joinX bk o c xs sep w (fun j x hx => by
      have := hc j (.string x) (by rw [List.getElem?_map, hx]; rfl)
      rwa [Addr.add_lit] at this) hb hn2 hn hlen
theorem splitB_mk (c : UInt8) (s : ByteArray) : (Lib.splitB ⟨#[c]⟩ 0 (Lib.countB s ⟨#[c]⟩) s) = (cutAll c s.data.toList).map mk := by
  have h := Lib.splitB_data ⟨#[c]⟩ 0 (Lib.countB s ⟨#[c]⟩) s
  have h2 : Lib.splitK [c] 0 (Lib.countB s ⟨#[c]⟩) s.data.toList = cutAll c s.data.toList := split_is c _ _ (Nat.le_refl _)
  have h3 : (Lib.splitB ⟨#[c]⟩ 0 (Lib.countB s ⟨#[c]⟩) s).map (·.data.toList) = cutAll c s.data.toList := h.trans h2
  rw [← h3, List.map_map]
  conv => lhs; rw [← List.map_id (Lib.splitB ⟨#[c]⟩ 0 (Lib.countB s ⟨#[c]⟩) s)]
  exact List.map_congr_left fun x _ => rfl
theorem cutAll_len (c : UInt8) : ∀ s : List UInt8, (cutAll c s).length ≤ s.length + 1
  | [] => by simp [cutAll]
  | b :: r => by
    have ih := cutAll_len c r
    unfold cutAll
    split
    · simp only [List.length_cons]; omega
    · split
      · simp
      · rename_i p ps e
        rw [e] at ih
        simp only [List.length_cons] at ih ⊢
        omega
theorem Split_any (w : World) (s : ByteArray) (c : UInt8) (hs : s.size < 4294967281) :
    Calls Tryd.prog 30 #[.string s, .string ⟨#[c]⟩] w fun e w' => ∃ A, e = .returned (.slice A (cutAll c s.data.toList).length (cutAll c s.data.toList).length) ∧ In w' (New w w') 1 A (cutAll c s.data.toList).length (((cutAll c s.data.toList).map mk).map Value.string) ∧ Grow w w' := by
  have h1 : 1 ≤ (⟨#[c]⟩ : ByteArray).size := by show 1 ≤ 1; omega
  have hle := Lib.countB_le ⟨#[c]⟩ h1 s.size s (Nat.le_refl _)
  have hlen := Lib.splitB_all ⟨#[c]⟩ h1 0 _ s rfl
  have hcount : ∀ w, Calls Tryd.prog 49 #[.string s, .string ⟨#[c]⟩] w fun e w' => e = .returned (.int .i64 (Lib.countB s ⟨#[c]⟩)) ∧ w' = w := fun w => by
    refine (Go.Proofs.Any.strings_Count_one (P := Tryd.prog) (ρ := genSplitL_ren) { genSplitL with } s c w).mono fun e w' ⟨he, hw⟩ => ⟨?_, hw⟩
    rw [he]
    show _ = Ending.returned (Value.int .i64 ((Lib.count s.data.toList [c] : Nat) : Int))
    rw [Lib.count_one]
    rfl
  have hcon := Go.Proofs.Any.strings_genSplit_core genSplitL (by kernel_rfl) s ⟨#[c]⟩ 0 (-1) (Lib.countB s ⟨#[c]⟩ + 1) w hs h1 (Nat.zero_le _)
    (fun x cs hx => by
      refine (Go.Proofs.Any.strings_Index_one (P := Tryd.prog) (ρ := genSplitL_ren) { genSplitL with } x c _).mono fun e w' ⟨he, hw⟩ => ⟨?_, hw⟩
      rw [he]
      show _ = Ending.returned (Value.int .i64 (Lib.index x.data.toList [c]))
      rw [Lib.index_one]) (hcount w) (by decide) (by decide) (by rw [if_pos (by decide)]; omega)
  rw [Nat.add_sub_cancel, hlen] at hcon
  have e2 : Lib.cellsOf (Lib.splitB ⟨#[c]⟩ 0 (Lib.countB s ⟨#[c]⟩) s) (Lib.countB s ⟨#[c]⟩ + 1) = ((Lib.splitB ⟨#[c]⟩ 0 (Lib.countB s ⟨#[c]⟩) s).map Value.string).toArray := by rw [← hlen]; exact Lib.cellsOf_full _
  rw [e2, splitB_mk] at hcon
  have hl2 : Lib.countB s ⟨#[c]⟩ + 1 = (cutAll c s.data.toList).length := by rw [← hlen, splitB_mk, List.length_map]
  rw [hl2] at hcon
  change Calls Tryd.prog 42 #[.string s, .string ⟨#[c]⟩, .int .i64 0, .int .i64 (-1)] w _ at hcon
  have hI : ∀ w1, w1 = w.alloc (.cells (((cutAll c s.data.toList).map mk).map Value.string).toArray 9) → In w1 (New w w1) 1 (some ⟨w.heap.size, 0, none⟩) (cutAll c s.data.toList).length (((cutAll c s.data.toList).map mk).map Value.string) ∧ Grow w w1 := fun w1 hw => by
    have hg : Grow w w1 := by rw [hw]; exact (Below.refl _ _).alloc (Nat.le_refl _) _
    refine ⟨⟨by simp, fun hn => ⟨_, rfl, ⟨Nat.le_refl _, by rw [hw]; simp⟩, by rw [hw]; simp, fun j u hu => ?_⟩⟩, hg⟩
    rw [Addr.add_lit, Nat.zero_add, hw]
    exact ((Blk.made w 9 _).cell j).trans (by simpa using hu)
  generalize (cutAll c s.data.toList).length = k at hcon hI ⊢
  generalize ((cutAll c s.data.toList).map mk).map Value.string = xs at hcon hI ⊢
  clear hlen hle hcount e2 hl2 h1
  go_enter Tryd.func30, Tryd.ntmps30
  go_wp2_with fail
  refine hcon.mono ?_
  rintro e w1 ⟨rfl, hw⟩
  have h2 := Lib.hid (hI w1 hw)
  clear hcon hI hw
  go_wp2_with fail
  go_ret
  exact ⟨_, rfl, h2.out.1, h2.out.2⟩
theorem liteCut_any (w : World) (s : ByteArray) (c : UInt8) (hs : s.size < 4294967281) :
    Calls Tryd.prog 43 #[.string s, .string ⟨#[c]⟩] w fun e w' => e = .returned (.tuple #[.string (mk (Lib.cut s.data.toList [c]).1), .string (mk (Lib.cut s.data.toList [c]).2.1), .bool (Lib.cut s.data.toList [c]).2.2]) ∧ ∃ n, w' = w.drewN n := by
  have hix1 : ∀ w, Calls Tryd.prog 51 #[.string s, .string ⟨#[c]⟩] w fun e w' => e = .returned (.int .i64 (Lib.indexB s ⟨#[c]⟩)) ∧ w' = w := fun w => by
    refine (Go.Proofs.Any.stringslite_Index_one (P := Tryd.prog) (ρ := cutL_ren) { cutL with } s c w).mono fun e w' ⟨he, hw⟩ => ⟨?_, hw⟩
    rw [he]
    show _ = Ending.returned (Value.int .i64 (Lib.index s.data.toList [c]))
    rw [Lib.index_one]
  rcases Lib.indexB_cases s ⟨#[c]⟩ with hix | ⟨i, hix, hroom⟩
  · obtain ⟨e1, e2, e3⟩ := Lib.cutB_miss s ⟨#[c]⟩ hix
    change mk (Lib.cut s.data.toList [c]).1 = _ at e1
    change mk (Lib.cut s.data.toList [c]).2.1 = _ at e2
    change (Lib.cut s.data.toList [c]).2.2 = _ at e3
    rw [e1, e2, e3]
    rw [hix] at hix1
    clear e1 e2 e3
    go_enter Tryd.func43, Tryd.ntmps43
    go_wp2_with fail
    refine (hix1 _).mono ?_
    rintro e w' ⟨rfl, rfl⟩
    go_wp2_with fail
    go_ret3
    exact ⟨rfl, 0, rfl⟩
  · obtain ⟨e1, e2, e3⟩ := Lib.cutB_hit s ⟨#[c]⟩ i hix
    change mk (Lib.cut s.data.toList [c]).1 = _ at e1
    change mk (Lib.cut s.data.toList [c]).2.1 = _ at e2
    change (Lib.cut s.data.toList [c]).2.2 = _ at e3
    rw [e1, e2, e3]
    rw [hix] at hix1
    have hsz : (⟨#[c]⟩ : ByteArray).size = 1 := rfl
    rw [hsz] at hroom ⊢
    have c1 : (0 : Int) ≤ ↑i := by omega
    have c2 : (↑i : Int) ≤ ↑s.size := by omega
    have c3 : (0 : Int) ≤ ↑i + 1 := by omega
    have c4 : (↑i + 1 : Int) ≤ ↑s.size := by omega
    clear e1 e2 e3
    go_enter Tryd.func43, Tryd.ntmps43
    go_wp2_with fail
    refine (hix1 _).mono ?_
    rintro e w' ⟨rfl, rfl⟩
    clear hix1
    go_wp2_with fail
    go_region
    all_goals go_wp2
    all_goals go_ret3
    all_goals exact ⟨rfl, 1, rfl⟩
theorem Cut_any (w : World) (s : ByteArray) (c : UInt8) (hs : s.size < 4294967281) :
    Calls Tryd.prog 31 #[.string s, .string ⟨#[c]⟩] w fun e w' => e = .returned (.tuple #[.string (mk (Lib.cut s.data.toList [c]).1), .string (mk (Lib.cut s.data.toList [c]).2.1), .bool (Lib.cut s.data.toList [c]).2.2]) ∧ Grow w w' := by
  have hcon := liteCut_any w s c hs
  generalize mk (Lib.cut s.data.toList [c]).1 = x at hcon ⊢
  generalize mk (Lib.cut s.data.toList [c]).2.1 = y at hcon ⊢
  generalize (Lib.cut s.data.toList [c]).2.2 = z at hcon ⊢
  go_enter Tryd.func31, Tryd.ntmps31
  go_wp2_with fail
  refine hcon.mono ?_
  rintro e w' ⟨rfl, n, rfl⟩
  clear hcon
  have hg : Grow w (w.drewN n) := by
    have : ∀ n, Grow w (w.drewN n) := fun n => by
      induction n with
      | zero => exact Grow.refl _
      | succ n ih => exact ih.drew
    exact this n
  generalize w.drewN n = w1 at hg ⊢
  go_wp2_with fail
  go_ret3
  exact ⟨rfl, hg⟩
end Go.Proofs.YthkkfdnechmddaaDoor
