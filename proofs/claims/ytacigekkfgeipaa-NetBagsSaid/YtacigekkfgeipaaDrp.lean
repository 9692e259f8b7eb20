/- Net.Drop, Net.Twice. -/
import Derived.Test.YtacigekkfgeipaaDel
namespace Go.Proofs.Ytacigekkfgeipaa
open Go.RowKit Go.Hop
def minus (l : List Lb) (i : Nat) : List Lb := l.take i ++ l.drop (i + 1)
/-- a net whose row has lost an element -/
theorem net_minus {g : Nat} {nodes : Int} {P : Nat → Bool} {w w1 w2 : World} {V R D : Nat → Prop} {q : List Lt} {l : List Lb} {A0 : Option Addr} {c0 i : Nat} (h1 : V g) (hql : q.map Lt.abs = l) (h64 : q.length ≤ 64) (hN : 1 ≤ nodes ∧ nodes ≤ 8) (hInv : ∀ a ∈ l, InN nodes a)
    (hB1 : Blk w1 g 57 (netc nodes (.slice A0 q.length c0) P)) (h6 : ∀ b ∈ q, LtIn w1 D b) (h7 : ∀ b, R b → V b ∧ b ≠ g ∧ ¬ D b) (h8 : ∀ b, D b → V b ∧ b ≠ g) (hi : i < q.length) (hg : Grow w w1)
    (hR2 : Row w2 R 35 3 (.slice A0 (q.length - 1) c0) (q.length - 1) ((q.flatMap Lt.cells).take (i * 3) ++ (q.flatMap Lt.cells).drop ((i + 1) * 3))) (hj2 : Just R w1 w2) :
    NetAt g nodes (minus l i) P (w2.setCell ⟨g, 1, none⟩ (.slice A0 (q.length - 1) c0)) V ∧ Just V w (w2.setCell ⟨g, 1, none⟩ (.slice A0 (q.length - 1) c0)) := by
  have hgR : ¬ R g := fun h => (h7 g h).2.1 rfl
  have hB2 := hj2.blk hB1 hgR
  have hql' : (q.take i ++ q.drop (i + 1)).length = q.length - 1 := by rw [List.length_append, List.length_take, List.length_drop]; omega
  have hcs : (q.take i ++ q.drop (i + 1)).flatMap Lt.cells = (q.flatMap Lt.cells).take (i * 3) ++ (q.flatMap Lt.cells).drop ((i + 1) * 3) := by
    rw [List.flatMap_append, flat_take Lt.cells 3 lt_len, flat_drop Lt.cells 3 lt_len]
  have hmem : ∀ b ∈ q.take i ++ q.drop (i + 1), b ∈ q := fun b hb => by
    rcases List.mem_append.1 hb with h | h
    · exact List.mem_of_mem_take h
    · exact List.mem_of_mem_drop h
  have hjs := just_at w2 g 1 (.slice A0 (q.length - 1) c0)
  refine ⟨⟨h1, .slice A0 (q.length - 1) c0, q.take i ++ q.drop (i + 1), R, D, ?_, by omega, hN, fun a ha => hInv a ?_, ?_, ?_, fun b hb => ?_, h7, h8⟩, ?_⟩
  · rw [List.map_append, List.map_take, List.map_drop, hql]; rfl
  · unfold minus at ha
    rcases List.mem_append.1 ha with h | h
    · exact List.mem_of_mem_take h
    · exact List.mem_of_mem_drop h
  · have := hB2.put 1 (.slice A0 (q.length - 1) c0)
    rwa [netc_set1] at this
  · rw [hql', hcs]
    exact hR2.just hjs fun b hb e => hgR (by rw [← show b = g from e]; exact hb)
  · exact ((h6 b (hmem b hb)).just hj2 fun x hx hr => (h7 x hr).2.2 hx).just hjs fun x hx e => (h8 x hx).2 e
  · exact ((Just.of_grow hg).trans (hj2.imp fun x hx => (h7 x hx).1)).trans (hjs.imp fun x hx => by rw [show x = g from hx]; exact h1)
theorem Drop_no (w : World) (g : Nat) (nodes : Int) (l : List Lb) (P : Nat → Bool) (i : Int) (h : nodeB (l.length : Int) i = false) :
    Turns Try.prog 18 #[.pointer (some ⟨g, 0, none⟩), .int .i64 i] (fun e => e = .returned (.int .i64 23)) (NetAt g nodes l P) (NetAt g nodes l P) w := by
  intro V hQ hV
  obtain ⟨A, c, q, HQ, HL, h64, hN, hInv, hB, hI, hnc, hcm⟩ := hQ.lts
  have hq : nodeB (q.length : Int) i = false := by rw [← HL.out]; exact h
  go_enter Try.func18, Try.ntmps18
  go_wp2_with (go_at_call 27; refine (there_any w g nodes _ _ _ _ _ hB).mono ?_; rintro e w2 ⟨rfl, hw2⟩; subst hw2)
  go_ret
  exact ⟨rfl, hQ.wide (fun _ => .inl), Just.of_grow (Grow.refl w)⟩
theorem Drop_yes (w : World) (g : Nat) (nodes : Int) (l : List Lb) (P : Nat → Bool) (i : Nat) (h : i < l.length) :
    Turns Try.prog 18 #[.pointer (some ⟨g, 0, none⟩), .int .i64 (i : Int)] (fun e => e = .returned (.int .i64 0)) (NetAt g nodes l P) (NetAt g nodes (minus l i) P) w := by
  intro V ⟨h1, v, q, R, D, hql, h64, hN, hInv, hB, hRow, h6, h7, h8⟩ hV
  obtain ⟨A0, c0, rfl, hI, hnc, hm0⟩ := hRow.in_
  have hi : i < q.length := by rw [← hql, List.length_map] at h; exact h
  have hq : nodeB (q.length : Int) (i : Int) = true := nodeB_yes (by omega)
  have HQL := Lib.hid hql
  have hgR : ¬ R g := fun h => (h7 g h).2.1 rfl
  clear hql h
  have c1 : w.cell? ⟨g, 1, none⟩ = some (.slice A0 q.length c0) := hB.cell 1
  go_enter Try.func18, Try.ntmps18
  go_wp2_with (go_at_call 27; refine (there_any w g nodes _ _ _ _ _ hB).mono ?_; rintro e w2 ⟨rfl, hw2⟩; subst hw2)
  go_at_call 28
  refine (delete_any w R A0 q.length c0 i _ hRow hi (by omega) (lts_one q)).mono ?_
  rintro e w2 ⟨rfl, hR2, hj2⟩
  have hB2 := hj2.blk hB hgR
  have f1 := hB2.frozen 1
  have c2 : w2.cell? ⟨g, 1, none⟩ = some (.slice A0 q.length c0) := hB2.cell 1
  go_wp2_with fail
  go_ret
  obtain ⟨a, b⟩ := net_minus h1 HQL.out h64 hN hInv hB h6 h7 h8 hi (Grow.refl w) hR2 hj2
  exact ⟨rfl, a.wide (fun _ => .inl), b⟩
theorem Twice_no (w : World) (g : Nat) (nodes : Int) (l : List Lb) (P : Nat → Bool) (i : Int) (h : nodeB (l.length : Int) i = false) :
    Turns Try.prog 15 #[.pointer (some ⟨g, 0, none⟩), .int .i64 i] (fun e => e = .returned (.int .i64 23)) (NetAt g nodes l P) (NetAt g nodes l P) w := by
  intro V hQ hV
  obtain ⟨A, c, q, HQ, HL, h64, hN, hInv, hB, hI, hnc, hcm⟩ := hQ.lts
  have hq : nodeB (q.length : Int) i = false := by rw [← HL.out]; exact h
  go_enter Try.func15, Try.ntmps15
  go_wp2_with (go_at_call 27; refine (there_any w g nodes _ _ _ _ _ hB).mono ?_; rintro e w2 ⟨rfl, hw2⟩; subst hw2)
  go_ret
  exact ⟨rfl, hQ.wide (fun _ => .inl), Just.of_grow (Grow.refl w)⟩
/-- what Send answers, and leaves -/
def sendE (nodes : Int) (l : List Lb) (f t : Int) : Int := if nodeB nodes f = false then 23 else if nodeB nodes t = false then 23 else if 64 ≤ l.length then 24 else 0
def sendL (nodes : Int) (l : List Lb) (a : Lb) : List Lb := if sendE nodes l a.1 a.2.1 = 0 then l ++ [a] else l
theorem Send_any (w : World) (Z : Nat → Prop) (g : Nat) (nodes : Int) (l : List Lb) (P : Nat → Bool) (f t : Int) (A : Option Addr) (m c : Nat) (bs : List UInt8) (hd0 : BIn w Z A m bs) (hmc : m ≤ c) (hcm : c ≤ maxLen) (hsm : m ≤ 1048576) :
    Turns Try.prog 12 #[.pointer (some ⟨g, 0, none⟩), .agg #[.int .i64 f, .int .i64 t, .slice A m c]] (fun e => e = .returned (.int .i64 (sendE nodes l f t))) (NetAt g nodes l P) (NetAt g nodes (sendL nodes l (f, t, bs)) P) w := by
  unfold sendL sendE
  cases hf : nodeB nodes f with
  | false => simp only [if_true]; exact Send_a w g nodes l P f t A m c hf
  | true =>
    cases ht : nodeB nodes t with
    | false => simp only [Bool.true_eq_false, if_true, if_false]; exact Send_b w g nodes l P f t A m c hf ht
    | true =>
      by_cases h : 64 ≤ l.length
      · simp only [Bool.true_eq_false, if_false, if_pos h]; exact Send_full w g nodes l P f t A m c hf ht h
      · simp only [Bool.true_eq_false, if_false, if_neg h, if_true]; exact Send_ok w Z g nodes l P f t A m c bs hd0 hmc hcm hsm hf ht (by omega)
theorem Twice_yes (w : World) (g : Nat) (nodes : Int) (l : List Lb) (P : Nat → Bool) (i : Nat) (h : i < l.length) :
    Turns Try.prog 15 #[.pointer (some ⟨g, 0, none⟩), .int .i64 (i : Int)] (fun e => e = .returned (.int .i64 (sendE nodes l l[i].1 l[i].2.1))) (NetAt g nodes l P) (NetAt g nodes (sendL nodes l l[i]) P) w := by
  intro V hQ hV
  obtain ⟨A, c, q, HQ, HL, h64, hN, hInv, hB, hI, hnc, hcm⟩ := hQ.lts
  have hi : i < q.length := by rw [← HL.out]; exact h
  have hq : nodeB (q.length : Int) (i : Int) = true := nodeB_yes (by omega)
  have c1 : w.cell? ⟨g, 1, none⟩ = some (.slice A q.length c) := hB.cell 1
  have hab : l[i] = q[i].abs := by
    have h3 : (q.map Lt.abs)[i]? = some q[i].abs := by rw [List.getElem?_map, List.getElem?_eq_getElem hi]; rfl
    rw [HQ.out, List.getElem?_eq_getElem h] at h3
    injection h3
  have HA := Lib.hid hab
  clear hab
  obtain ⟨ad, hiq, rfl, _, _, e0, e12⟩ := hI.row.rec_ (by omega) lt_len hi
  have hin := hI.all _ (List.getElem_mem hiq)
  have e0 := e0 _ rfl
  have e1 := e12 0 _ rfl
  have e2 := e12 1 _ rfl
  clear e12
  generalize l[i] = la at HA ⊢
  generalize q[i] = b at hin e0 e1 e2 HA
  obtain ⟨f, t, Ab, mb, cb, bs⟩ := b
  dsimp only at e0 e1 e2
  obtain rfl := HA.out
  have hs := Send_any w V g nodes l P f t Ab mb cb bs hin.bs hin.le hin.max hin.small V hQ hV
  go_enter Try.func15, Try.ntmps15
  go_wp2_with (go_at_call 27; refine (there_any w g nodes _ _ _ _ _ hB).mono ?_; rintro e w2 ⟨rfl, hw2⟩; subst hw2)
  go_at_call 12
  refine hs.mono ?_
  rintro e w2 ⟨rfl, hN2, hj2⟩
  go_wp2_with fail
  go_ret
  exact ⟨rfl, hN2, hj2⟩
end Go.Proofs.Ytacigekkfgeipaa
