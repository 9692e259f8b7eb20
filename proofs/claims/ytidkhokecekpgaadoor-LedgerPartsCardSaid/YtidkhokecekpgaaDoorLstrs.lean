/- strings.Join, Split at a byte, Cut at a byte. -/
import Derived.Test.YtidkhokecekpgaaDoorLplain
import Derived.Shelf.Strings.SplitCore
import Derived.Shelf.Strings.Search3
import Derived.Shelf.Strings.Count
import Derived.Shelf.Strings.OnBuilder
namespace Go.Proofs.YtidkhokecekpgaaDoor
open Go.Shelf
def joinL_ren : Go.Shelf.Ren := ⟨fun | 156 => 52 | 165 => 72 | 166 => 73 | 169 => 74 | 240 => 89 | 241 => 90 | 276 => 98 | 277 => 99 | n => n, fun | 31 => 33 | 9 => 9 | 3 => 3 | 4 => 4 | 0 => 0 | 20 => 20 | 72 => 100 | 76 => 104 | 70 => 97 | 37 => 98 | 75 => 103 | 127 => 116 | 164 => 124 | 5 => 5 | 80 => 60 | n => n, fun | n => n⟩
theorem joinL : Go.Proofs.Lays.n156 Tryd.prog joinL_ren := {
  mixed := by kernel_rfl
  f156 := Tryd.func52.trans (congrArg some (by kernel_rfl))
  f165 := Tryd.func72.trans (congrArg some (by kernel_rfl))
  f166 := Tryd.func73.trans (congrArg some (by kernel_rfl))
  f169 := Tryd.func74.trans (congrArg some (by kernel_rfl))
  f240 := Tryd.func89.trans (congrArg some (by kernel_rfl))
  f241 := Tryd.func90.trans (congrArg some (by kernel_rfl))
  f276 := Tryd.func98.trans (congrArg some (by kernel_rfl))
  f277 := Tryd.func99.trans (congrArg some (by kernel_rfl))
  t0 := Tryd.underlying0
  a0 := Tryd.isAgg0
  z0 := Tryd.sizeOf0
  v0 := Tryd.zeroValue0
  t3 := Tryd.underlying3
  a3 := Tryd.isAgg3
  z3 := Tryd.sizeOf3
  v3 := Tryd.zeroValue3
  t4 := Tryd.underlying4
  a4 := Tryd.isAgg4
  z4 := Tryd.sizeOf4
  v4 := Tryd.zeroValue4
  t9 := Tryd.underlying9
  a9 := Tryd.isAgg9
  z9 := Tryd.sizeOf9
  v9 := Tryd.zeroValue9
  t20 := Tryd.underlying20
  a20 := Tryd.isAgg20
  z20 := Tryd.sizeOf20
  v20 := Tryd.zeroValue20
  t31 := Tryd.underlying33
  a31 := Tryd.isAgg33
  z31 := Tryd.sizeOf33
  v31 := Tryd.zeroValue33
  t37 := Tryd.underlying98
  a37 := Tryd.isAgg98
  z37 := Tryd.sizeOf98
  v37 := Tryd.zeroValue98
  t70 := Tryd.underlying97
  a70 := Tryd.isAgg97
  z70 := Tryd.sizeOf97
  v70 := Tryd.zeroValue97
  t72 := Tryd.underlying100
  a72 := Tryd.isAgg100
  z72 := Tryd.sizeOf100
  v72 := Tryd.zeroValue100
  t75 := Tryd.underlying103
  a75 := Tryd.isAgg103
  z75 := Tryd.sizeOf103
  v75 := Tryd.zeroValue103
  t76 := Tryd.underlying104
  a76 := Tryd.isAgg104
  z76 := Tryd.sizeOf104
  v76 := Tryd.zeroValue104
  t127 := Tryd.underlying116
  a127 := Tryd.isAgg116
  z127 := Tryd.sizeOf116
  v127 := Tryd.zeroValue116
  t164 := Tryd.underlying124
  a164 := Tryd.isAgg124
  z164 := Tryd.sizeOf124
  v164 := Tryd.zeroValue124 }
def genSplitL_ren : Go.Shelf.Ren := ⟨fun | 221 => 48 | 268 => 64 | 138 => 65 | 143 => 66 | 195 => 81 | 197 => 82 | 218 => 83 | 219 => 67 | 260 => 93 | 217 => 84 | 225 => 85 | 224 => 86 | 267 => 87 | 266 => 94 | 314 => 95 | n => n, fun | 9 => 9 | 3 => 3 | 31 => 33 | 4 => 4 | 0 => 0 | 105 => 112 | 21 => 21 | 5 => 5 | 46 => 73 | 119 => 127 | 139 => 130 | 138 => 129 | 146 => 120 | 51 => 92 | n => n, fun | 1 => 0 | 3 => 1 | 4 => 2 | n => n⟩
theorem genSplitL : Go.Proofs.Lays.n221 Tryd.prog genSplitL_ren := {
  mixed := by kernel_rfl
  f138 := Tryd.func65.trans (congrArg some (by kernel_rfl))
  f143 := Tryd.func66.trans (congrArg some (by kernel_rfl))
  f195 := Tryd.func81.trans (congrArg some (by kernel_rfl))
  f197 := Tryd.func82.trans (congrArg some (by kernel_rfl))
  f217 := Tryd.func84.trans (congrArg some (by kernel_rfl))
  f218 := Tryd.func83.trans (congrArg some (by kernel_rfl))
  f219 := Tryd.func67.trans (congrArg some (by kernel_rfl))
  f221 := Tryd.func48.trans (congrArg some (by kernel_rfl))
  f224 := Tryd.func86.trans (congrArg some (by kernel_rfl))
  f225 := Tryd.func85.trans (congrArg some (by kernel_rfl))
  f260 := Tryd.func93.trans (congrArg some (by kernel_rfl))
  f266 := Tryd.func94.trans (congrArg some (by kernel_rfl))
  f267 := Tryd.func87.trans (congrArg some (by kernel_rfl))
  f268 := Tryd.func64.trans (congrArg some (by kernel_rfl))
  f314 := Tryd.func95.trans (congrArg some (by kernel_rfl))
  t0 := Tryd.underlying0
  a0 := Tryd.isAgg0
  z0 := Tryd.sizeOf0
  v0 := Tryd.zeroValue0
  t3 := Tryd.underlying3
  a3 := Tryd.isAgg3
  z3 := Tryd.sizeOf3
  v3 := Tryd.zeroValue3
  t4 := Tryd.underlying4
  a4 := Tryd.isAgg4
  z4 := Tryd.sizeOf4
  v4 := Tryd.zeroValue4
  t5 := Tryd.underlying5
  a5 := Tryd.isAgg5
  z5 := Tryd.sizeOf5
  v5 := Tryd.zeroValue5
  t9 := Tryd.underlying9
  a9 := Tryd.isAgg9
  z9 := Tryd.sizeOf9
  v9 := Tryd.zeroValue9
  t21 := Tryd.underlying21
  a21 := Tryd.isAgg21
  z21 := Tryd.sizeOf21
  v21 := Tryd.zeroValue21
  t31 := Tryd.underlying33
  a31 := Tryd.isAgg33
  z31 := Tryd.sizeOf33
  v31 := Tryd.zeroValue33
  t46 := Tryd.underlying73
  a46 := Tryd.isAgg73
  z46 := Tryd.sizeOf73
  v46 := Tryd.zeroValue73
  t51 := Tryd.underlying92
  a51 := Tryd.isAgg92
  z51 := Tryd.sizeOf92
  v51 := Tryd.zeroValue92
  t105 := Tryd.underlying112
  a105 := Tryd.isAgg112
  z105 := Tryd.sizeOf112
  v105 := Tryd.zeroValue112
  t119 := Tryd.underlying127
  a119 := Tryd.isAgg127
  z119 := Tryd.sizeOf127
  t138 := Tryd.underlying129
  a138 := Tryd.isAgg129
  z138 := Tryd.sizeOf129
  v138 := Tryd.zeroValue129
  t139 := Tryd.underlying130
  a139 := Tryd.isAgg130
  z139 := Tryd.sizeOf130
  v139 := Tryd.zeroValue130
  t146 := Tryd.underlying120
  a146 := Tryd.isAgg120
  z146 := Tryd.sizeOf120
  v146 := Tryd.zeroValue120
  g1 := by kernel_rfl
  g3 := by kernel_rfl
  g4 := by kernel_rfl }
def cutL_ren : Go.Shelf.Ren := ⟨fun | 145 => 34 | 220 => 49 | 219 => 67 | 217 => 84 | 225 => 85 | 224 => 86 | 267 => 87 | 266 => 94 | 314 => 95 | n => n, fun | 9 => 9 | 4 => 4 | 59 => 63 | 3 => 3 | 5 => 5 | 46 => 73 | 146 => 120 | 51 => 92 | n => n, fun | 1 => 0 | n => n⟩
theorem cutL : Go.Proofs.Lays.n145 Tryd.prog cutL_ren := {
  mixed := by kernel_rfl
  f145 := Tryd.func34.trans (congrArg some (by kernel_rfl))
  f217 := Tryd.func84.trans (congrArg some (by kernel_rfl))
  f219 := Tryd.func67.trans (congrArg some (by kernel_rfl))
  f220 := Tryd.func49.trans (congrArg some (by kernel_rfl))
  f224 := Tryd.func86.trans (congrArg some (by kernel_rfl))
  f225 := Tryd.func85.trans (congrArg some (by kernel_rfl))
  f266 := Tryd.func94.trans (congrArg some (by kernel_rfl))
  f267 := Tryd.func87.trans (congrArg some (by kernel_rfl))
  f314 := Tryd.func95.trans (congrArg some (by kernel_rfl))
  t3 := Tryd.underlying3
  a3 := Tryd.isAgg3
  z3 := Tryd.sizeOf3
  v3 := Tryd.zeroValue3
  t4 := Tryd.underlying4
  a4 := Tryd.isAgg4
  z4 := Tryd.sizeOf4
  v4 := Tryd.zeroValue4
  t5 := Tryd.underlying5
  a5 := Tryd.isAgg5
  z5 := Tryd.sizeOf5
  v5 := Tryd.zeroValue5
  t9 := Tryd.underlying9
  a9 := Tryd.isAgg9
  z9 := Tryd.sizeOf9
  v9 := Tryd.zeroValue9
  t46 := Tryd.underlying73
  a46 := Tryd.isAgg73
  z46 := Tryd.sizeOf73
  v46 := Tryd.zeroValue73
  t51 := Tryd.underlying92
  a51 := Tryd.isAgg92
  z51 := Tryd.sizeOf92
  v51 := Tryd.zeroValue92
  t59 := Tryd.underlying63
  a59 := Tryd.isAgg63
  z59 := Tryd.sizeOf63
  v59 := Tryd.zeroValue63
  t146 := Tryd.underlying120
  a146 := Tryd.isAgg120
  z146 := Tryd.sizeOf120
  v146 := Tryd.zeroValue120
  g1 := by kernel_rfl }
theorem joinX : Go.Proofs.Builder.Extra Tryd.prog joinL_ren := {
  sizeBuilder := by kernel_rfl
  liesBuilder := by kernel_rfl
  t5 := Tryd.underlying5
  a5 := Tryd.isAgg5
  z5 := Tryd.sizeOf5
  v5 := Tryd.zeroValue5
  infoByte := by kernel_rfl
  cellsByte := by kernel_rfl
  sizeByte := by kernel_rfl
  neB5 := by decide }
end Go.Proofs.YtidkhokecekpgaaDoor
namespace Go.Proofs.YtidkhokecekpgaaDoor
open Go.RowKit Go.Hop Go.Shelf
theorem Join_any (w : World) (V : Nat → Prop) (A : Option Addr) (n c : Nat) (xs : List ByteArray) (sep : ByteArray) (h : In w V 1 A n (xs.map Value.string)) (hn : n ≤ c) (hn2 : n ≤ 140737488355328) (hlen : (Lib.join (xs.map (·.data.toList)) sep.data.toList).length ≤ 140737488355328) :
    Calls Tryd.prog 52 #[.slice A n c, .string sep] w fun e w' => e = .returned (.string (mk (Lib.join (xs.map (·.data.toList)) sep.data.toList))) ∧ Grow w w' := by
  have hl : xs.length = n := by have := h.1; simpa using this
  rcases Nat.eq_zero_or_pos n with h0 | h0
  · subst h0
    obtain rfl : xs = [] := List.eq_nil_of_length_eq_zero hl
    refine (Go.Proofs.Any.strings_Join_none joinL joinX A c sep w).mono ?_
    rintro e w' ⟨he, rfl⟩
    exact ⟨he, Grow.refl _⟩
  · obtain ⟨ad, rfl, _, hb, hc⟩ := h.2 h0
    obtain ⟨bk, o, m⟩ := ad
    have hm : m = none := by
      have h1 := hc 0 (.string xs[0]) (by rw [List.getElem?_map, List.getElem?_eq_getElem (by omega)]; rfl)
      cases m with
      | none => rfl
      | some m =>
        simp only [World.cell?, Addr.add] at h1
        split at h1 <;> simp at h1
    subst hm
    subst hl
    exact Go.Proofs.Any.strings_Join joinL joinX bk o c xs sep w (fun j x hx => by
      have := hc j (.string x) (by rw [List.getElem?_map, hx]; rfl)
      rwa [Addr.add_lit] at this) hb hn2 hn hlen
theorem splitB_mk (c : UInt8) (s : ByteArray) : (Lib.splitB ⟨#[c]⟩ 0 (Lib.countB s ⟨#[c]⟩) s) = (cutAll c s.data.toList).map mk := by
  have h := Lib.splitB_data ⟨#[c]⟩ 0 (Lib.countB s ⟨#[c]⟩) s
  have h2 : Lib.splitK [c] 0 (Lib.countB s ⟨#[c]⟩) s.data.toList = cutAll c s.data.toList := split_is c _ _ (Nat.le_refl _)
  have h3 : (Lib.splitB ⟨#[c]⟩ 0 (Lib.countB s ⟨#[c]⟩) s).map (·.data.toList) = cutAll c s.data.toList := h.trans h2
  rw [← h3, List.map_map]
  conv => lhs; rw [← List.map_id (Lib.splitB ⟨#[c]⟩ 0 (Lib.countB s ⟨#[c]⟩) s)]
  exact List.map_congr_left fun x _ => rfl
theorem cutAll_len (c : UInt8) : ∀ s : List UInt8, (cutAll c s).length ≤ s.length + 1
  | [] => by simp [cutAll]
  | b :: r => by
    have ih := cutAll_len c r
    unfold cutAll
    split
    · simp only [List.length_cons]; omega
    · split
      · simp
      · rename_i p ps e
        rw [e] at ih
        simp only [List.length_cons] at ih ⊢
        omega
theorem Split_any (w : World) (s : ByteArray) (c : UInt8) (hs : s.size < 4294967281) :
    Calls Tryd.prog 33 #[.string s, .string ⟨#[c]⟩] w fun e w' => ∃ A, e = .returned (.slice A (cutAll c s.data.toList).length (cutAll c s.data.toList).length) ∧ In w' (New w w') 1 A (cutAll c s.data.toList).length (((cutAll c s.data.toList).map mk).map Value.string) ∧ Grow w w' := by
  have h1 : 1 ≤ (⟨#[c]⟩ : ByteArray).size := by show 1 ≤ 1; omega
  have hle := Lib.countB_le ⟨#[c]⟩ h1 s.size s (Nat.le_refl _)
  have hlen := Lib.splitB_all ⟨#[c]⟩ h1 0 _ s rfl
  have hcount : ∀ w, Calls Tryd.prog 65 #[.string s, .string ⟨#[c]⟩] w fun e w' => e = .returned (.int .i64 (Lib.countB s ⟨#[c]⟩)) ∧ w' = w := fun w => by
    refine (Go.Proofs.Any.strings_Count_one (P := Tryd.prog) (ρ := genSplitL_ren) { genSplitL with } s c w).mono fun e w' ⟨he, hw⟩ => ⟨?_, hw⟩
    rw [he]
    show _ = Ending.returned (Value.int .i64 ((Lib.count s.data.toList [c] : Nat) : Int))
    rw [Lib.count_one]
    rfl
  have hcon := Go.Proofs.Any.strings_genSplit_core genSplitL (by kernel_rfl) s ⟨#[c]⟩ 0 (-1) (Lib.countB s ⟨#[c]⟩ + 1) w hs h1 (Nat.zero_le _)
    (fun x cs hx => by
      refine (Go.Proofs.Any.strings_Index_one (P := Tryd.prog) (ρ := genSplitL_ren) { genSplitL with } x c _).mono fun e w' ⟨he, hw⟩ => ⟨?_, hw⟩
      rw [he]
      show _ = Ending.returned (Value.int .i64 (Lib.index x.data.toList [c]))
      rw [Lib.index_one]) (hcount w) (by decide) (by decide) (by rw [if_pos (by decide)]; omega)
  rw [Nat.add_sub_cancel, hlen] at hcon
  have e2 : Lib.cellsOf (Lib.splitB ⟨#[c]⟩ 0 (Lib.countB s ⟨#[c]⟩) s) (Lib.countB s ⟨#[c]⟩ + 1) = ((Lib.splitB ⟨#[c]⟩ 0 (Lib.countB s ⟨#[c]⟩) s).map Value.string).toArray := by rw [← hlen]; exact Lib.cellsOf_full _
  rw [e2, splitB_mk] at hcon
  have hl2 : Lib.countB s ⟨#[c]⟩ + 1 = (cutAll c s.data.toList).length := by rw [← hlen, splitB_mk, List.length_map]
  rw [hl2] at hcon
  change Calls Tryd.prog 48 #[.string s, .string ⟨#[c]⟩, .int .i64 0, .int .i64 (-1)] w _ at hcon
  have hI : ∀ w1, w1 = w.alloc (.cells (((cutAll c s.data.toList).map mk).map Value.string).toArray 9) → In w1 (New w w1) 1 (some ⟨w.heap.size, 0, none⟩) (cutAll c s.data.toList).length (((cutAll c s.data.toList).map mk).map Value.string) ∧ Grow w w1 := fun w1 hw => by
    have hg : Grow w w1 := by rw [hw]; exact (Below.refl _ _).alloc (Nat.le_refl _) _
    refine ⟨⟨by simp, fun hn => ⟨_, rfl, ⟨Nat.le_refl _, by rw [hw]; simp⟩, by rw [hw]; simp, fun j u hu => ?_⟩⟩, hg⟩
    rw [Addr.add_lit, Nat.zero_add, hw]
    exact ((Blk.made w 9 _).cell j).trans (by simpa using hu)
  generalize (cutAll c s.data.toList).length = k at hcon hI ⊢
  generalize ((cutAll c s.data.toList).map mk).map Value.string = xs at hcon hI ⊢
  clear hlen hle hcount e2 hl2 h1
  go_enter Tryd.func33, Tryd.ntmps33
  go_wp2_with fail
  refine hcon.mono ?_
  rintro e w1 ⟨rfl, hw⟩
  have h2 := Lib.hid (hI w1 hw)
  clear hcon hI hw
  go_wp2_with fail
  go_ret
  exact ⟨_, rfl, h2.out.1, h2.out.2⟩
theorem liteCut_any (w : World) (s : ByteArray) (c : UInt8) (hs : s.size < 4294967281) :
    Calls Tryd.prog 49 #[.string s, .string ⟨#[c]⟩] w fun e w' => e = .returned (.tuple #[.string (mk (Lib.cut s.data.toList [c]).1), .string (mk (Lib.cut s.data.toList [c]).2.1), .bool (Lib.cut s.data.toList [c]).2.2]) ∧ ∃ n, w' = w.drewN n := by
  have hix1 : ∀ w, Calls Tryd.prog 67 #[.string s, .string ⟨#[c]⟩] w fun e w' => e = .returned (.int .i64 (Lib.indexB s ⟨#[c]⟩)) ∧ w' = w := fun w => by
    refine (Go.Proofs.Any.stringslite_Index_one (P := Tryd.prog) (ρ := cutL_ren) { cutL with } s c w).mono fun e w' ⟨he, hw⟩ => ⟨?_, hw⟩
    rw [he]
    show _ = Ending.returned (Value.int .i64 (Lib.index s.data.toList [c]))
    rw [Lib.index_one]
  rcases Lib.indexB_cases s ⟨#[c]⟩ with hix | ⟨i, hix, hroom⟩
  · obtain ⟨e1, e2, e3⟩ := Lib.cutB_miss s ⟨#[c]⟩ hix
    change mk (Lib.cut s.data.toList [c]).1 = _ at e1
    change mk (Lib.cut s.data.toList [c]).2.1 = _ at e2
    change (Lib.cut s.data.toList [c]).2.2 = _ at e3
    rw [e1, e2, e3]
    rw [hix] at hix1
    clear e1 e2 e3
    go_enter Tryd.func49, Tryd.ntmps49
    go_wp2_with fail
    refine (hix1 _).mono ?_
    rintro e w' ⟨rfl, rfl⟩
    go_wp2_with fail
    go_ret3
    exact ⟨rfl, 0, rfl⟩
  · obtain ⟨e1, e2, e3⟩ := Lib.cutB_hit s ⟨#[c]⟩ i hix
    change mk (Lib.cut s.data.toList [c]).1 = _ at e1
    change mk (Lib.cut s.data.toList [c]).2.1 = _ at e2
    change (Lib.cut s.data.toList [c]).2.2 = _ at e3
    rw [e1, e2, e3]
    rw [hix] at hix1
    have hsz : (⟨#[c]⟩ : ByteArray).size = 1 := rfl
    rw [hsz] at hroom ⊢
    have c1 : (0 : Int) ≤ ↑i := by omega
    have c2 : (↑i : Int) ≤ ↑s.size := by omega
    have c3 : (0 : Int) ≤ ↑i + 1 := by omega
    have c4 : (↑i + 1 : Int) ≤ ↑s.size := by omega
    clear e1 e2 e3
    go_enter Tryd.func49, Tryd.ntmps49
    go_wp2_with fail
    refine (hix1 _).mono ?_
    rintro e w' ⟨rfl, rfl⟩
    clear hix1
    go_wp2_with fail
    go_region
    all_goals go_wp2
    all_goals go_ret3
    all_goals exact ⟨rfl, 1, rfl⟩
theorem Cut_any (w : World) (s : ByteArray) (c : UInt8) (hs : s.size < 4294967281) :
    Calls Tryd.prog 34 #[.string s, .string ⟨#[c]⟩] w fun e w' => e = .returned (.tuple #[.string (mk (Lib.cut s.data.toList [c]).1), .string (mk (Lib.cut s.data.toList [c]).2.1), .bool (Lib.cut s.data.toList [c]).2.2]) ∧ Grow w w' := by
  have hcon := liteCut_any w s c hs
  generalize mk (Lib.cut s.data.toList [c]).1 = x at hcon ⊢
  generalize mk (Lib.cut s.data.toList [c]).2.1 = y at hcon ⊢
  generalize (Lib.cut s.data.toList [c]).2.2 = z at hcon ⊢
  go_enter Tryd.func34, Tryd.ntmps34
  go_wp2_with fail
  refine hcon.mono ?_
  rintro e w' ⟨rfl, n, rfl⟩
  clear hcon
  have hg : Grow w (w.drewN n) := by
    have : ∀ n, Grow w (w.drewN n) := fun n => by
      induction n with
      | zero => exact Grow.refl _
      | succ n ih => exact ih.drew
    exact this n
  generalize w.drewN n = w1 at hg ⊢
  go_wp2_with fail
  go_ret3
  exact ⟨rfl, hg⟩
end Go.Proofs.YtidkhokecekpgaaDoor
