/- WalNumbers: its walk. -/
import Derived.Test.YtdpcokekilklfaaPlays
import Derived.Test.YtdpcokekilklfaaBrow
import Derived.Test.YtdpcokekilklfaaFlowM
import Derived.Laws.OwnMore
import Derived.Deep.OwnRows
namespace Go.Proofs.Ytdpcokekilklfaa
open Go.RowKit Go.Hop
theorem reads_at {w w' : World} {B B' size n : Nat} {A : Option Addr} {xs : List Value} (h : Reads w B size A n xs) (hB : ∀ ad, A = some ad → ad.block < B → ad.block < B') (hk : ∀ ad, A = some ad → ad.block < B → w'.heap[ad.block]? = w.heap[ad.block]?) : Reads w' B' size A n xs :=
  ⟨h.1, fun hn => by
    obtain ⟨ad, e, hb, hc⟩ := h.2 hn
    exact ⟨ad, e, hB ad e hb, fun j u hu => by rw [World.cell?_of_block (a := ad.add j) (w := w) (by rw [block_add]; exact hk ad e hb)]; exact hc j u hu⟩⟩
/-- an ask whose bytes lie apart from V -/
def AskOff (w : World) (V : Nat → Prop) (a : Ask) : Prop := AskIn w w.heap.size a ∧ ∀ ad, a.A = some ad → ¬ V ad.block
theorem AskOff.keep {w w' : World} {V V' : Nat → Prop} {a : Ask} (h : AskOff w V a) (hj : Just V w w') (hV : ∀ b, b < w.heap.size → V' b → V b) (hz : a.m = 0 → a.A = none ∨ ∃ ad, a.A = some ad ∧ ad.block < w.heap.size) : AskOff w' V' a := by
  refine ⟨⟨reads_at h.1.bytes (fun ad _ hb => Nat.lt_of_lt_of_le hb hj.size) (fun ad e hb => hj.block _ hb (h.2 ad e)), h.1.le, h.1.max, h.1.kind, h.1.num⟩, fun ad e hv => ?_⟩
  refine h.2 ad e (hV _ ?_ hv)
  rcases Nat.eq_zero_or_pos a.m with h0 | h0
  · rcases hz h0 with h1 | ⟨ad', h1, h2⟩
    · rw [h1] at e; cases e
    · rw [h1] at e; injection e with e; rw [← e]; exact h2
  · obtain ⟨ad', e', hb, _⟩ := h.1.bytes.2 h0
    rw [e'] at e; injection e with e; rw [← e]; exact hb
/-- a literal's row, not marked yet or marked -/
def LitB (B : Nat) (l : List UInt8) (u : Value) (w : World) : Prop := ∃ g, u = .slice (some ⟨g, 0, none⟩) l.length l.length ∧ B ≤ g ∧ g < w.heap.size ∧ w.shape? g = some (5, l.length) ∧ Bytes w w.heap.size (some ⟨g, 0, none⟩) l.length l
theorem litB_lasting (B : Nat) (l : List UInt8) : LastingM B (LitB B l) := fun _ _ _ ⟨g, h1, h2, h3, h4, h5⟩ hg =>
  ⟨g, h1, h2, Nat.lt_of_lt_of_le h3 hg.below.size, (hg.shape g h3).trans h4, Reads.more (Reads.keep h5 fun p hp => hg.cell p hp) hg.below.size⟩
theorem lit_laid {B : Nat} {w w' : World} {l : List UInt8} {cs : Array Value} {u : Value} (hB : B ≤ w.heap.size) (hs : cs.size = l.length) (hc : cs.toList = u8s l) (hw : w' = w.alloc (.cells cs 5)) (hu : u = .slice (some ⟨w.heap.size, 0, none⟩) l.length l.length) : GrowB B w w' ∧ LitB B l u w' := by
  subst hw hu
  have hg : Grow w (w.alloc (.cells cs 5)) := (Below.refl _ w).alloc (Nat.le_refl _) _
  refine ⟨GrowB.of_grow hg hB, w.heap.size, rfl, hB, by simp, ?_, lit_bytes w cs _ l (0, 0) hs hc⟩
  unfold World.shape?
  rw [heap_alloc_new w _, ← hs]
theorem lit_marked {B : Nat} {w : World} {l : List UInt8} {u : Value} {ρ : Operand → Value} {o : Oper} {x : Operand} (ho : o.op = .convert 29 29 x) (hx : ρ x = u) (h : LitB B l u w) (hl : l.length ≤ maxLen) :
    flowUponM Try.prog (fun v w' => GrowB B w w' ∧ IsBytes l v w') ((execOp ρ o).run Try.prog w) := by
  obtain ⟨dst, op, ty, pos, after, guard⟩ := o
  simp only at ho
  subst ho
  obtain ⟨g, rfl, h2, h3, h4, h5⟩ := h
  have hrun : (convert 29 29 (.slice (some ⟨g, 0, none⟩) l.length l.length)).run Try.prog w = .ok (.slice (some ⟨g, 0, none⟩) l.length l.length) (w.freeze ⟨g, l.length, none⟩ 1) := by
    simp [convert, run_underlying Try.underlying29, run_underlying Try.underlying5, markStringish, h4]
  have hg := GrowB.freeze (B := B) w (p := ⟨g, l.length, none⟩) h2 1
  refine flowUpon_valueM (u := .slice (some ⟨g, 0, none⟩) l.length l.length) (w := w.freeze ⟨g, l.length, none⟩ 1) ?_ ⟨hg, _, _, _, rfl, Reads.more (Reads.keep h5 fun p hp => hg.cell p hp) hg.below.size, Nat.le_refl _, hl⟩
  go_simp
/-- rows of asks -/
def IsAsks (u : Value) (w : World) : Prop := ∃ (A : Option Addr) (n c : Nat) (q : List Ask), u = .slice A n c ∧ Asks w w.heap.size A n q ∧ n ≤ c ∧ c ≤ maxLen
theorem isAsks_lasting (B : Nat) : LastingM B IsAsks := fun _ _ _ ⟨A, n, c, q, h1, h2, h3, h4⟩ hg =>
  ⟨A, n, c, q, h1, ⟨Reads.more (Reads.keep h2.1 fun p hp => hg.cell p hp) hg.below.size, fun a ha => ⟨Reads.more (Reads.keep (h2.2 a ha).bytes fun p hp => hg.cell p hp) hg.below.size, (h2.2 a ha).le, (h2.2 a ha).max, (h2.2 a ha).kind, (h2.2 a ha).num⟩⟩, h3, h4⟩
theorem asks_laid {B : Nat} {w : World} {q : List Ask} {cs : Array Value} (hB : B ≤ w.heap.size) (hs : cs.size = q.length * 3) (hc : cs.toList = q.flatMap Ask.cells) (hq : ∀ a ∈ q, AskIn w w.heap.size a) (hl : q.length ≤ maxLen) :
    GrowB B w (w.alloc (.cells cs 41)) ∧ IsAsks (.slice (some ⟨w.heap.size, 0, none⟩) q.length q.length) (w.alloc (.cells cs 41)) := by
  have hg : Grow w (w.alloc (.cells cs 41)) := (Below.refl _ w).alloc (Nat.le_refl _) _
  have hr := reads_laid w cs 41 (0, 0) hs _ rfl
  rw [hc] at hr
  exact ⟨GrowB.of_grow hg hB, _, _, _, q, rfl, ⟨hr.more (by simp), fun a ha => ((hq a ha).below hg).more hg.size⟩, Nat.le_refl _, hl⟩
def SomeBytes (n : Nat) (u : Value) (w : World) : Prop := ∃ l : List UInt8, l.length = n ∧ IsBytes l u w
theorem someBytes_lasting (B n : Nat) : LastingM B (SomeBytes n) := fun _ _ _ ⟨l, h1, h2⟩ hg => ⟨l, h1, lasting_bytesM l _ _ _ h2 hg⟩
theorem call_B {B : Nat} {f : FuncId} {args : Array Value} {w : World} {v : Value} (h : Calls Try.prog f args w fun e w' => e = .returned v ∧ Grow w w') (hB : B ≤ w.heap.size) : Calls Try.prog f args w fun e w' => e = .returned v ∧ GrowB B w w' :=
  h.mono fun _ _ ⟨he, hg⟩ => ⟨he, GrowB.of_grow hg hB⟩
theorem play_B {B : Nat} {w : World} {u v : Value} {l : List UInt8} (hu : IsBytes l u w) (hl : l.length ≤ 100000) (hv : IsAsks v w) (hB : B ≤ w.heap.size) : Calls Try.prog 19 #[u, v] w fun e w' => e = .returned (.bool true) ∧ GrowB B w w' := by
  obtain ⟨A, n, c, rfl, h1, _, _⟩ := hu
  obtain ⟨A', n', c', q, rfl, h2, h3, h4⟩ := hv
  exact call_B (play_any w A n c l h1 (by rw [← h1.len]; exact hl) A' n' c' q h2 h3 h4) hB
theorem in0 : I64 0 := by unfold I64; omega
theorem in4 : I64 4 := by unfold I64; omega
theorem askIn_none (w : World) (k : Int) (hk : I64 k) : AskIn w w.heap.size ⟨k, none, 0, 0, [], 0⟩ := ⟨Reads.nil, Nat.le_refl _, Nat.zero_le _, hk, in0⟩
theorem askIn_bytes {w : World} {A : Option Addr} {n c : Nat} {l : List UInt8} (h : Bytes w w.heap.size A n l) (h1 : n ≤ c) (h2 : c ≤ maxLen) : AskIn w w.heap.size ⟨0, A, n, c, l, 0⟩ := ⟨h, h1, h2, in0, in0⟩
theorem big_laid {B n : Nat} {w : World} {ZZ : Array Value} (hB : B ≤ w.heap.size) (hZ : ZZ = madeCells #[.int .u8 0] n) (hn : n ≤ maxLen) : GrowB B w (w.alloc (.cells ZZ 5)) ∧ SomeBytes n (.slice (some ⟨w.heap.size, 0, none⟩) n n) (w.alloc (.cells ZZ 5)) := by
  have hz : ZZ.toList = u8s (List.replicate n 0) := by
    rw [hZ, toList_madeCells_one]; unfold u8s; rw [List.map_replicate]; rfl
  have hzs : ZZ.size = n := by rw [hZ, size_madeCells]
  exact ⟨GrowB.of_grow ((Below.refl _ w).alloc (Nat.le_refl _) _) hB, List.replicate n 0, List.length_replicate, _, _, _, rfl, lit_bytes w ZZ n _ (0, 0) hzs hz, Nat.le_refl _, hn⟩
/-- an ask that holds bytes -/
def IsAsk1 (u : Value) (w : World) : Prop := ∃ (A : Option Addr) (n c : Nat) (l : List UInt8), u = .agg #[.int .i64 0, .slice A n c, .int .i64 0] ∧ Bytes w w.heap.size A n l ∧ n ≤ c ∧ c ≤ maxLen
theorem isAsk1_lasting (B : Nat) : LastingM B IsAsk1 := fun _ _ _ ⟨A, n, c, l, h1, h2, h3⟩ hg => ⟨A, n, c, l, h1, Reads.more (Reads.keep h2 fun p hp => hg.cell p hp) hg.below.size, h3⟩
theorem ask1_built {B : Nat} {w : World} {v : Value} {l : List UInt8} {ρ : Operand → Value} {o : Oper} {x : Operand} (ho : o.op = .build 41 #[(1, x)]) (hx : ρ x = v) (hv : IsBytes l v w) : flowUponM Try.prog (fun u w' => GrowB B w w' ∧ IsAsk1 u w') ((execOp ρ o).run Try.prog w) := by
  obtain ⟨dst, op, ty, pos, after, guard⟩ := o
  simp only at ho
  subst ho
  obtain ⟨A, n, c, rfl, h1, h2, h3⟩ := hv
  refine flowUpon_valueM (u := .agg #[.int .i64 0, .slice A n c, .int .i64 0]) (w := w) ?_ ⟨GrowB.refl _ _, A, n, c, l, rfl, h1, h2, h3⟩
  go_simp
theorem ask1_some {B m : Nat} {w : World} {v : Value} {ρ : Operand → Value} {o : Oper} {x : Operand} (ho : o.op = .build 41 #[(1, x)]) (hx : ρ x = v) (hv : SomeBytes m v w) : flowUponM Try.prog (fun u w' => GrowB B w w' ∧ IsAsk1 u w') ((execOp ρ o).run Try.prog w) := by
  obtain ⟨l, _, hv⟩ := hv
  exact ask1_built ho hx hv
theorem ask4_built {w : World} {ρ : Operand → Value} {o : Oper} (ho : o.op = .build 41 #[(0, .const (.int .i64 4))]) (hρ : ∀ v, ρ (.const v) = v) : (execOp ρ o).run Try.prog w = .ok (.value (.agg #[.int .i64 4, .slice none 0 0, .int .i64 0])) w := by
  obtain ⟨dst, op, ty, pos, after, guard⟩ := o
  simp only at ho
  subst ho
  go_simp
theorem lit17 {B : Nat} {w : World} {ρ : Operand → Value} {o : Oper} (ho : o.op = .buildSlice 29 17 #[(0, .const (.int .u8 110)), (1, .const (.int .u8 111)), (2, .const (.int .u8 32)), (3, .const (.int .u8 114)), (4, .const (.int .u8 101)), (5, .const (.int .u8 99)), (6, .const (.int .u8 111)), (7, .const (.int .u8 114)), (8, .const (.int .u8 100)), (9, .const (.int .u8 115)), (10, .const (.int .u8 32)), (11, .const (.int .u8 97)), (12, .const (.int .u8 116)), (13, .const (.int .u8 32)), (14, .const (.int .u8 97)), (15, .const (.int .u8 108)), (16, .const (.int .u8 108))]) (hρ : ∀ v, ρ (.const v) = v) (hB : B ≤ w.heap.size) : flowUponM Try.prog (fun u w' => GrowB B w w' ∧ LitB B [110, 111, 32, 114, 101, 99, 111, 114, 100, 115, 32, 97, 116, 32, 97, 108, 108] u w') ((execOp ρ o).run Try.prog w) := by
  obtain ⟨dst, op, ty, pos, after, guard⟩ := o
  simp only at ho
  subst ho
  refine flowUpon_valueM (u := .slice (some ⟨w.heap.size, 0, none⟩) 17 17) (w := w.alloc (.cells #[.int .u8 110, .int .u8 111, .int .u8 32, .int .u8 114, .int .u8 101, .int .u8 99, .int .u8 111, .int .u8 114, .int .u8 100, .int .u8 115, .int .u8 32, .int .u8 97, .int .u8 116, .int .u8 32, .int .u8 97, .int .u8 108, .int .u8 108] 5)) ?_ (lit_laid hB rfl rfl rfl rfl)
  go_simp
theorem lit1 {B : Nat} {w : World} {ρ : Operand → Value} {o : Oper} (ho : o.op = .buildSlice 29 1 #[(0, .const (.int .u8 120))]) (hρ : ρ (.const (.int .u8 120)) = .int .u8 120) (hB : B ≤ w.heap.size) : flowUponM Try.prog (fun u w' => GrowB B w w' ∧ LitB B [120] u w') ((execOp ρ o).run Try.prog w) := by
  obtain ⟨dst, op, ty, pos, after, guard⟩ := o
  simp only at ho
  subst ho
  refine flowUpon_valueM (u := .slice (some ⟨w.heap.size, 0, none⟩) 1 1) (w := w.alloc (.cells #[.int .u8 120] 5)) ?_ (lit_laid hB rfl rfl rfl rfl)
  go_simp
theorem big65537 {B : Nat} {w : World} {ρ : Operand → Value} {o : Oper} (ho : o.op = .makeSlice 29 (.const (.int .i64 65537)) (.const (.int .i64 65537))) (hρ : ρ (.const (.int .i64 65537)) = .int .i64 65537) (hB : B ≤ w.heap.size) : flowUponM Try.prog (fun u w' => GrowB B w w' ∧ SomeBytes 65537 u w') ((execOp ρ o).run Try.prog w) := by
  obtain ⟨dst, op, ty, pos, after, guard⟩ := o
  simp only at ho
  subst ho
  have hmk : (Instr.makeSlice 29 (.int .i64 65537) (.int .i64 65537)).run Try.prog w = .ok (.slice (some ⟨w.heap.size, 0, none⟩) 65537 65537) (w.alloc (.cells (madeCells #[.int .u8 0] 65537) 5)) := run_make_row' 29 5 (.int .u8 0) 1 Try.underlying29 u8_info rfl .i64 .i64 65537 (by decide) (by decide) w
  obtain ⟨ZZ, HZ⟩ : ∃ ZZ : Array Value, Hid (ZZ = madeCells #[.int .u8 0] 65537) := ⟨_, rfl⟩
  rw [← HZ.out] at hmk
  refine flowUpon_valueM (u := .slice (some ⟨w.heap.size, 0, none⟩) 65537 65537) (w := w.alloc (.cells ZZ 5)) ?_ (big_laid hB HZ.out (by decide))
  go_simp
theorem big65536 {B : Nat} {w : World} {ρ : Operand → Value} {o : Oper} (ho : o.op = .makeSlice 29 (.const (.int .i64 65536)) (.const (.int .i64 65536))) (hρ : ρ (.const (.int .i64 65536)) = .int .i64 65536) (hB : B ≤ w.heap.size) : flowUponM Try.prog (fun u w' => GrowB B w w' ∧ SomeBytes 65536 u w') ((execOp ρ o).run Try.prog w) := by
  obtain ⟨dst, op, ty, pos, after, guard⟩ := o
  simp only at ho
  subst ho
  have hmk : (Instr.makeSlice 29 (.int .i64 65536) (.int .i64 65536)).run Try.prog w = .ok (.slice (some ⟨w.heap.size, 0, none⟩) 65536 65536) (w.alloc (.cells (madeCells #[.int .u8 0] 65536) 5)) := run_make_row' 29 5 (.int .u8 0) 1 Try.underlying29 u8_info rfl .i64 .i64 65536 (by decide) (by decide) w
  obtain ⟨ZZ, HZ⟩ : ∃ ZZ : Array Value, Hid (ZZ = madeCells #[.int .u8 0] 65536) := ⟨_, rfl⟩
  rw [← HZ.out] at hmk
  refine flowUpon_valueM (u := .slice (some ⟨w.heap.size, 0, none⟩) 65536 65536) (w := w.alloc (.cells ZZ 5)) ?_ (big_laid hB HZ.out (by decide))
  go_simp
theorem asks3 {B : Nat} {w : World} {v : Value} {ρ : Operand → Value} {o : Oper} {x y z : Operand} (ho : o.op = .buildSlice 39 3 #[(0, x), (1, y), (2, z)]) (hx : ρ x = v) (hy : ρ y = .agg #[.int .i64 4, .slice none 0 0, .int .i64 0]) (hz : ρ z = .agg #[.int .i64 4, .slice none 0 0, .int .i64 0]) (hv : IsAsk1 v w) (hB : B ≤ w.heap.size) :
    flowUponM Try.prog (fun u w' => GrowB B w w' ∧ IsAsks u w') ((execOp ρ o).run Try.prog w) := by
  obtain ⟨dst, op, ty, pos, after, guard⟩ := o
  simp only at ho
  subst ho
  obtain ⟨A, n, c, l, rfl, h1, h2, h3⟩ := hv
  refine flowUpon_valueM (u := .slice (some ⟨w.heap.size, 0, none⟩) 3 3) (w := w.alloc (.cells #[.int .i64 0, .slice A n c, .int .i64 0, .int .i64 4, .slice none 0 0, .int .i64 0, .int .i64 4, .slice none 0 0, .int .i64 0] 41)) ?_ (asks_laid (q := [⟨0, A, n, c, l, 0⟩, ⟨4, none, 0, 0, [], 0⟩, ⟨4, none, 0, 0, [], 0⟩]) hB rfl rfl (fun a ha => ?_) (by show _ ≤ maxLen; unfold maxLen; simp))
  · go_simp
  · simp only [List.mem_cons, List.not_mem_nil, or_false] at ha
    rcases ha with rfl | rfl | rfl
    · exact askIn_bytes h1 h2 h3
    · exact askIn_none w 4 in4
    · exact askIn_none w 4 in4
theorem asks2 {B : Nat} {w : World} {v1 v2 : Value} {ρ : Operand → Value} {o : Oper} {x y : Operand} (ho : o.op = .buildSlice 39 2 #[(0, x), (1, y)]) (hx : ρ x = v1) (hy : ρ y = v2) (hv1 : IsAsk1 v1 w) (hv2 : IsAsk1 v2 w) (hB : B ≤ w.heap.size) :
    flowUponM Try.prog (fun u w' => GrowB B w w' ∧ IsAsks u w') ((execOp ρ o).run Try.prog w) := by
  obtain ⟨dst, op, ty, pos, after, guard⟩ := o
  simp only at ho
  subst ho
  obtain ⟨A1, n1, c1, l1, rfl, h1, h2, h3⟩ := hv1
  obtain ⟨A2, n2, c2, l2, rfl, h4, h5, h6⟩ := hv2
  refine flowUpon_valueM (u := .slice (some ⟨w.heap.size, 0, none⟩) 2 2) (w := w.alloc (.cells #[.int .i64 0, .slice A1 n1 c1, .int .i64 0, .int .i64 0, .slice A2 n2 c2, .int .i64 0] 41)) ?_ (asks_laid (q := [⟨0, A1, n1, c1, l1, 0⟩, ⟨0, A2, n2, c2, l2, 0⟩]) hB rfl rfl (fun a ha => ?_) (by show _ ≤ maxLen; unfold maxLen; simp))
  · go_simp
  · simp only [List.mem_cons, List.not_mem_nil, or_false] at ha
    rcases ha with rfl | rfl
    · exact askIn_bytes h1 h2 h3
    · exact askIn_bytes h4 h5 h6
set_option maxRecDepth 100000 in
set_option maxHeartbeats 8000000 in
theorem numbers_any (w : World) : Calls Try.prog 6 #[] w fun e w' => e = .returned (.bool true) ∧ Grow w w' := by
  have kc := conv_const
  have hf1 : (frame [102, 105, 114, 115, 116]).length = 10 := frame_small (by decide)
  have hf2 : (frame []).length = 5 := frame_small (by decide)
  have hf3 : (frame [116, 104, 105, 114, 100]).length = 10 := frame_small (by decide)
  have k19 : ∀ (vs : Array Value) (w : World), (callFunc 19 vs).run Try.prog w = .ok (.enter 19 vs) w := fun vs w => by go_simp
  have k15 : ∀ (vs : Array Value) (w : World), (callFunc 15 vs).run Try.prog w = .ok (.enter 15 vs) w := fun vs w => by go_simp
  go_enter Try.func6, Try.ntmps6
  go_wp2_with fail
  go_at_call 18
  refine (rFrame_any _ _ 5 5 [102, 105, 114, 115, 116] (lit_bytes w _ 5 _ (5, 6) rfl rfl) (by decide)).mono ?_
  rintro e w1 ⟨v1, rfl, hO1, hg1⟩
  rw [hf1] at hO1
  have hg1 := grow_alloc hg1
  have hO1 := hO1.mono (V' := New w w1) fun b hb => ⟨by have := hb.1; simp at this; omega, hb.2⟩
  obtain ⟨A1, c1, rfl, _, _, _⟩ := hO1.reads
  go_wp2_with fail
  go_at_call 18
  refine (rFrame_any w1 none 0 0 [] Reads.nil (by decide)).mono ?_
  rintro e w2 ⟨v2, rfl, hO2, hg2⟩
  rw [hf2] at hO2
  obtain ⟨A2, c2, rfl, hR2, hn2, hm2⟩ := hO2.reads
  go_wp2_with (at_builtin; refine stay ?_)
  refine stay_out ?_
  refine wpList_own (V := New w w2) u8E _ rfl (.tmp 7) (.tmp 8) rfl (.slice A1 10 c1) 10 (u8s (frame [102, 105, 114, 115, 116])) rfl ((hO1.grow (fun b hb => hb.2) hg2).mono fun b hb => ⟨hb.1, Nat.lt_of_lt_of_le hb.2 hg2.size⟩) w2.heap.size A2 5 c2 (u8s (frame [])) rfl hR2 u8s_one (by omega) ?_
  intro v3 w3 hO3 hj3
  obtain ⟨hO3, hg3⟩ := own_more (hg1.trans hg2) hO3 hj3
  rw [← u8s_append] at hO3
  obtain ⟨A3, c3, rfl, _, _, _⟩ := hO3.reads
  clear hO1 hO2 hR2 hj3
  go_wp2_with fail
  go_at_call 18
  refine (rFrame_any _ _ 5 5 [116, 104, 105, 114, 100] (lit_bytes w3 _ 5 _ (5, 6) rfl rfl) (by decide)).mono ?_
  rintro e w4 ⟨v4, rfl, hO4, hg4⟩
  rw [hf3] at hO4
  have hg4 := grow_alloc hg4
  obtain ⟨A4, c4, rfl, hR4, hn4, hm4⟩ := hO4.reads
  go_wp2_with (at_builtin; refine stay ?_)
  refine stay_out ?_
  refine wpList_own (V := New w w4) u8E _ rfl (.tmp 9) (.tmp 12) rfl (.slice A3 (10 + 5) c3) (10 + 5) (u8s (frame [102, 105, 114, 115, 116] ++ frame [])) rfl ((hO3.grow (fun b hb => hb.2) hg4).mono fun b hb => ⟨hb.1, Nat.lt_of_lt_of_le hb.2 hg4.size⟩) w4.heap.size A4 10 c4 (u8s (frame [116, 104, 105, 114, 100])) rfl hR4 u8s_one (by omega) ?_
  intro v5 w5 hO5 hj5
  obtain ⟨hO5, hg5⟩ := own_more (hg3.trans hg4) hO5 hj5
  rw [← u8s_append] at hO5
  obtain ⟨A5, c5, rfl, hR5, hn5, hm5⟩ := hO5.reads
  clear hO3 hO4 hR4 hj5 hO5
  generalize frame [102, 105, 114, 115, 116] ++ frame [] ++ frame [116, 104, 105, 114, 100] = row at hR5
  have hR5 : Bytes w5 w5.heap.size A5 25 row := hR5
  have hn5 : 25 ≤ c5 := hn5
  rw [show (10 + 5 + 10 : Nat) = 25 from rfl]
  go_wp2_with fail
  go_loopw [2] (fun kv wr => ∃ (k : Nat), k ≤ 30 ∧ kv = .int .i64 k ∧ Grow w5 wr) (fun kv _ => 30 - (intOf kv).toNat)
  case atStart => exact ⟨0, by omega, rfl, Grow.refl _⟩
  case round =>
    obtain ⟨k, hk30, rfl, hg0⟩ := hrel
    by_cases hk : k < 30
    · have hkt : decide ((k : Int) < 30) = true := decide_eq_true (by omega)
      go_wp2_with fail
      go_loopw [3, 4] (fun s iv wx => ∃ (i : Nat) (qs : List Ask) (V : Nat → Prop), i ≤ 40 ∧ iv = .int .i64 i ∧ Own wx V 41 3 s i (qs.flatMap Ask.cells) ∧ (∀ a ∈ qs, AskOff wx V a ∧ ∃ ad, a.A = some ad ∧ ad.block < wx.heap.size) ∧ (∀ b, V b → w5.heap.size ≤ b ∧ b < wx.heap.size) ∧ Grow w5 wx) (fun _ iv _ => 40 - (intOf iv).toNat)
      case atStart => exact ⟨0, [], fun _ => False, by omega, rfl, Own.nil, by simp, by simp, hg0⟩
      case round =>
        obtain ⟨i, qs, V, hi40, rfl, hO, hqs, hV, hg⟩ := hrel
        obtain ⟨A1, c1, rfl, hR1, hn1, hm1⟩ := hO.reads
        by_cases hi : i < 40
        · have hit : decide ((i : Int) < 40) = true := decide_eq_true (by omega)
          have hik : 0 ≤ (i : Int) * (k : Int) ∧ (i : Int) * (k : Int) ≤ 1131 := by
            have h1 : i * k ≤ 39 * 29 := Nat.mul_le_mul (by omega) (by omega)
            have h2 : (i : Int) * (k : Int) = ((i * k : Nat) : Int) := by simp
            omega
          have hii : 0 ≤ (i : Int) * (i : Int) ∧ (i : Int) * (i : Int) ≤ 1521 := by
            have h1 : i * i ≤ 39 * 39 := Nat.mul_le_mul (by omega) (by omega)
            have h2 : (i : Int) * (i : Int) = ((i * i : Nat) : Int) := by simp
            omega
          go_wp2_with (at_builtin; refine stay ?_)
          refine stay_out ?_
          obtain ⟨K1, HK⟩ : ∃ K1 : Int, Hid (K1 = ((i : Int) * (i : Int) + (k : Int)) % 5) := ⟨_, rfl⟩
          obtain ⟨N1, HN⟩ : ∃ N1 : Int, Hid (N1 = (i : Int) * (k : Int) % 31) := ⟨_, rfl⟩
          have hK : I64 K1 := by
            have h3 := HK.out
            unfold I64
            omega
          have hN : I64 N1 := by
            have h3 := HN.out
            unfold I64
            omega
          rw [← HK.out, ← HN.out]
          have hsz := hg.size
          have hgA : Grow wr ((wr.alloc (.cells #[.int .u8 97, .int .u8 32, .int .u8 114, .int .u8 101, .int .u8 99, .int .u8 111, .int .u8 114, .int .u8 100] 5 (8, 9))).alloc (.cells #[.int .i64 K1, .slice (some ⟨wr.heap.size, 0, none⟩) (i % 9 % 8) 8, .int .i64 N1] 41)) := ((Below.refl wr.heap.size wr).alloc (Nat.le_refl _) _).alloc (by simp) _
          have hnew0 : Reads (wr.alloc (.cells #[.int .u8 97, .int .u8 32, .int .u8 114, .int .u8 101, .int .u8 99, .int .u8 111, .int .u8 114, .int .u8 100] 5 (8, 9))) (wr.heap.size + 1) 1 (some ⟨wr.heap.size, 0, none⟩) 8 (u8s [97, 32, 114, 101, 99, 111, 114, 100]) := reads_laid wr _ 5 (8, 9) rfl _ rfl
          have hnew1 := (hnew0.take (k := i % 9 % 8) (by omega)).alloc (by simp) (.cells #[.int .i64 K1, .slice (some ⟨wr.heap.size, 0, none⟩) (i % 9 % 8) 8, .int .i64 N1] 41)
          rw [← u8s_take] at hnew1
          have hrow := reads_laid (wr.alloc (.cells #[.int .u8 97, .int .u8 32, .int .u8 114, .int .u8 101, .int .u8 99, .int .u8 111, .int .u8 114, .int .u8 100] 5 (8, 9))) #[.int .i64 K1, .slice (some ⟨wr.heap.size, 0, none⟩) (i % 9 % 8) 8, .int .i64 N1] 41 (0, 0) (n := 1) (size := 3) rfl (wr.heap.size + 1) (by simp)
          obtain ⟨W2, HW⟩ : ∃ W2 : World, Hid (W2 = ((wr.alloc (.cells #[.int .u8 97, .int .u8 32, .int .u8 114, .int .u8 101, .int .u8 99, .int .u8 111, .int .u8 114, .int .u8 100] 5 (8, 9))).alloc (.cells #[.int .i64 K1, .slice (some ⟨wr.heap.size, 0, none⟩) (i % 9 % 8) 8, .int .i64 N1] 41))) := ⟨_, rfl⟩
          have hW2 : W2.heap.size = wr.heap.size + 2 := by rw [HW.out]; simp
          rw [← HW.out] at hgA hnew1 hrow ⊢
          refine wpList_own (V := V) askE _ rfl (.tmp 22) (.tmp 40) rfl (.slice A1 i c1) i (qs.flatMap Ask.cells) rfl (hO.grow (fun b h => (hV b h).2) hgA) (wr.heap.size + 1 + 1) (some ⟨wr.heap.size + 1, 0, none⟩) 1 1 (Ask.cells ⟨K1, some ⟨wr.heap.size, 0, none⟩, i % 9 % 8, 8, List.take (i % 9 % 8) [97, 32, 114, 101, 99, 111, 114, 100], N1⟩) rfl hrow (ask_one _) (by omega) ?_
          intro v3 w3 hO3 hj3
          have hs3 := hj3.size
          have hJ : Just V wr w3 := (Just.of_grow hgA).trans hj3
          have hV3 : ∀ b, Ext V W2 w3 b → w5.heap.size ≤ b ∧ b < w3.heap.size := fun b h => by
            rcases h with h | h
            · have := hV b h; exact ⟨this.1, by omega⟩
            · have h1 := h.1; have h2 := h.2; exact ⟨by omega, h2⟩
          have hq3 : ∀ a ∈ qs ++ [(⟨K1, some ⟨wr.heap.size, 0, none⟩, i % 9 % 8, 8, List.take (i % 9 % 8) [97, 32, 114, 101, 99, 111, 114, 100], N1⟩ : Ask)], AskOff w3 (Ext V W2 w3) a ∧ ∃ ad, a.A = some ad ∧ ad.block < w3.heap.size := fun a ha => by
            rcases List.mem_append.1 ha with h | h
            · obtain ⟨h1, ad, h2, h3⟩ := hqs a h
              refine ⟨h1.keep hJ (fun b hb hv => ?_) (fun _ => .inr ⟨ad, h2, h3⟩), ad, h2, by have := hJ.size; omega⟩
              rcases hv with hv | hv
              · exact hv
              · have := hv.1; omega
            · rw [List.mem_singleton.1 h]
              have hoff : AskOff W2 V (⟨K1, some ⟨wr.heap.size, 0, none⟩, i % 9 % 8, 8, List.take (i % 9 % 8) [97, 32, 114, 101, 99, 111, 114, 100], N1⟩ : Ask) := ⟨⟨Reads.more hnew1 (by omega), by show i % 9 % 8 ≤ 8; omega, by show 8 ≤ maxLen; decide, hK, hN⟩, fun ad e hv => by
                injection e with e
                rw [← e] at hv
                have := (hV _ hv).2
                exact absurd this (by show ¬ wr.heap.size < wr.heap.size; omega)⟩
              refine ⟨hoff.keep hj3 (fun b hb hv => ?_) (fun _ => .inr ⟨_, rfl, by show wr.heap.size < _; omega⟩), _, rfl, by show wr.heap.size < _; omega⟩
              rcases hv with hv | hv
              · exact hv
              · have := hv.1; omega
          have hO4 : Own w3 (Ext V W2 w3) 41 3 v3 (i + 1) ((qs ++ [(⟨K1, some ⟨wr.heap.size, 0, none⟩, i % 9 % 8, 8, List.take (i % 9 % 8) [97, 32, 114, 101, 99, 111, 114, 100], N1⟩ : Ask)]).flatMap Ask.cells) := by
            rw [List.flatMap_append, List.flatMap_cons, List.flatMap_nil, List.append_nil]
            exact hO3
          have hg3 : Grow w5 w3 := Below.trans hg (Below.trans (hgA.mono hsz) (hj3.below (B := w5.heap.size) (fun b h => (hV b h).1) (by omega)))
          clear hO3 hj3 hJ hnew0 hnew1 hqs hO hR1 hgA hs3
          generalize qs ++ [(⟨K1, some ⟨wr.heap.size, 0, none⟩, i % 9 % 8, 8, List.take (i % 9 % 8) [97, 32, 114, 101, 99, 111, 114, 100], N1⟩ : Ask)] = q3 at hq3 hO4
          generalize Ext V W2 w3 = V3 at hq3 hO4 hV3
          go_wp2_with fail
          go_roundw
          case rel => exact ⟨i + 1, q3, V3, by omega, by go_num, hO4, hq3, hV3, hg3⟩
          case measure => simp [intOf]; omega
        · obtain rfl : i = 40 := by omega
          have hqs1 : Asks wr wr.heap.size A1 40 qs := ⟨hR1, fun a ha => (hqs a ha).1.1⟩
          have hrk : Bytes wr wr.heap.size A5 (k % 25) (row.take (k % 25)) := by
            have := Reads.take (Reads.more (Reads.below hR5 hg) hg.size) (k := k % 25) (by omega)
            unfold Bytes
            rw [u8s_take]; exact this
          have hp := play_any wr A5 (k % 25) c5 (row.take (k % 25)) hrk (by omega) A1 40 c1 qs hqs1 hn1 hm1
          have hck : ¬ c5 < k % 25 := by omega
          clear hrk hqs1 hqs hO hR1
          go_wp2_with fail
          go_at_call 19
          refine hp.mono ?_
          rintro e w7 ⟨rfl, hg7⟩
          have hg8 : Grow w5 w7 := hg.trans hg7
          clear hp hg hg7
          go_wp2_with fail
          go_roundw
          case rel => exact ⟨k + 1, by omega, by go_num, hg8⟩
          case measure => simp [intOf]; omega
    · have hkt : decide ((k : Int) < 30) = false := decide_eq_false (by omega)
      have hgw : Grow w wr := below_trans hg5 hg0 hg5.size
      clear hg0 hg1 hg2 hg3 hg4 hg5 hR5
      obtain ⟨B, HB⟩ : ∃ B : Nat, Hid (B = wr.heap.size) := ⟨_, rfl⟩
      have hBw : ∀ w1, GrowB wr.heap.size wr w1 → wr.heap.size ≤ w1.heap.size := fun w1 hg => hg.below.size
      go_wp2_with fail
      refine wp_region_regM rfl ?_
      refine reg_flowM (quietM wr.heap.size) quiet_okM 0 21 71 [(0, .inr (fun _ u w => LitB wr.heap.size [110, 111, 32, 114, 101, 99, 111, 114, 100, 115, 32, 97, 116, 32, 97, 108, 108] u w)), (1, .inr (fun _ u w => IsBytes [110, 111, 32, 114, 101, 99, 111, 114, 100, 115, 32, 97, 116, 32, 97, 108, 108] u w)), (2, .inr (fun _ u w => LitB wr.heap.size [120] u w)), (3, .inr (fun _ u w => IsBytes [120] u w)), (4, .inr (fun _ u w => IsAsk1 u w)), (7, .inr (fun _ u w => IsAsks u w)), (8, .inl (.bool true)), (10, .inr (fun _ u w => SomeBytes 65537 u w)), (11, .inr (fun _ u w => IsAsk1 u w)), (12, .inr (fun _ u w => SomeBytes 65536 u w)), (13, .inr (fun _ u w => IsAsk1 u w)), (14, .inr (fun _ u w => IsAsks u w)), (15, .inl (.bool true)), (18, .inl (.bool true))] rfl (by kernel_rfl) (by kernel_rfl) (by kernel_rfl) ?_ (GrowB.refl _ _).drew trivial ?_
      · intro x hx φ he
        simp only [List.mem_cons, List.not_mem_nil, or_false] at hx
        rcases hx with rfl | rfl | rfl | rfl | rfl | rfl | rfl | rfl | rfl | rfl | rfl | rfl | rfl | rfl <;> cases he
        all_goals first | exact lasts_quietM (lasting_bytesM _) | exact lasts_quietM (litB_lasting _ _) | exact lasts_quietM (isAsks_lasting _) | exact lasts_quietM (isAsk1_lasting _) | exact lasts_quietM (someBytes_lasting _ _)
      intro ops' A' K' T hops hA' hK hT
      refine fl_anyM 51 (by rfl) (by decide) (wanted_noneM (by rfl)) (fun _ u w => LitB wr.heap.size [110, 111, 32, 114, 101, 99, 111, 114, 100, 115, 32, 97, 116, 32, 97, 108, 108] u w) (by rw [hK.out]; rfl) (fun kk w1 (hg : GrowB wr.heap.size _ w1) hb hf => by refine upon_behindAnyM (φ := fun _ u w => LitB wr.heap.size [110, 111, 32, 114, 101, 99, 111, 114, 100, 115, 32, 97, 116, 32, 97, 108, 108] u w) (by rfl) ?_; exact lit17 rfl (fun _ => rfl) (hBw w1 hg)) (fun v51 => ?_)
      refine fl_any1M 52 (by rfl) (by decide) (wanted_noneM (by rfl)) (fun _ u w => IsBytes [110, 111, 32, 114, 101, 99, 111, 114, 100, 115, 32, 97, 116, 32, 97, 108, 108] u w) (by rw [hK.out]; rfl) (.tmp 51) (v51) (by rfl) (fun ρ h1 kk w1 (hg : GrowB wr.heap.size _ w1) hb hf => by refine upon_behindAnyM (φ := fun _ u w => IsBytes [110, 111, 32, 114, 101, 99, 111, 114, 100, 115, 32, 97, 116, 32, 97, 108, 108] u w) (by rfl) ?_; exact lit_marked rfl h1 (facts_takeM hf (by rw [hA'.out]; kernel_rfl)) (by decide)) (fun v52 => ?_)
      refine fl_any1M 53 (by rfl) (by decide) (wanted_noneM (by rfl)) (fun _ u w => LitB wr.heap.size [120] u w) (by rw [hK.out]; rfl) (.const (.int .u8 120)) (.int .u8 120) (by rfl) (fun ρ h1 kk w1 (hg : GrowB wr.heap.size _ w1) hb hf => by refine upon_behindAnyM (φ := fun _ u w => LitB wr.heap.size [120] u w) (by rfl) ?_; exact lit1 rfl h1 (hBw w1 hg)) (fun v53 => ?_)
      refine fl_any1M 54 (by rfl) (by decide) (wanted_noneM (by rfl)) (fun _ u w => IsBytes [120] u w) (by rw [hK.out]; rfl) (.tmp 53) (v53) (by rfl) (fun ρ h1 kk w1 (hg : GrowB wr.heap.size _ w1) hb hf => by refine upon_behindAnyM (φ := fun _ u w => IsBytes [120] u w) (by rfl) ?_; exact lit_marked rfl h1 (facts_takeM hf (by rw [hA'.out]; kernel_rfl)) (by decide)) (fun v54 => ?_)
      refine fl_anyM 55 (by rfl) (by decide) (wanted_noneM (by rfl)) (fun _ u w => IsAsk1 u w) (by rw [hK.out]; rfl) (fun kk w1 (hg : GrowB wr.heap.size _ w1) hb hf => by refine upon_behindAnyM (φ := fun _ u w => IsAsk1 u w) (by rfl) ?_; exact ask1_built rfl rfl (facts_takeM hf (by rw [hA'.out]; kernel_rfl))) (fun v55 => ?_)
      refine fl_detM 56 (by rfl) (by decide) (wanted_noneM (by rfl)) (by rw [hK.out]; rfl) (by rfl) (.agg #[.int .i64 4, .slice none 0 0, .int .i64 0]) (fun kk w1 (hg : GrowB wr.heap.size _ w1) hb hf => by exact ask4_built rfl (fun _ => rfl)) ?_
      refine fl_detM 57 (by rfl) (by decide) (wanted_noneM (by rfl)) (by rw [hK.out]; rfl) (by rfl) (.agg #[.int .i64 4, .slice none 0 0, .int .i64 0]) (fun kk w1 (hg : GrowB wr.heap.size _ w1) hb hf => by exact ask4_built rfl (fun _ => rfl)) ?_
      refine fl_anyM 58 (by rfl) (by decide) (wanted_noneM (by rfl)) (fun _ u w => IsAsks u w) (by rw [hK.out]; rfl) (fun kk w1 (hg : GrowB wr.heap.size _ w1) hb hf => by refine upon_behindAnyM (φ := fun _ u w => IsAsks u w) (by rfl) ?_; exact asks3 rfl rfl rfl rfl (facts_takeM hf (by rw [hA'.out]; kernel_rfl)) (hBw w1 hg)) (fun v58 => ?_)
      refine fl_callM 59 (by rfl) (by decide) (wanted_noneM (by rfl)) (.bool true) (by rw [hK.out]; rfl) 19 _ _ (by rfl) [v52, v58] (by rfl) k19 (fun kk w1 (hg : GrowB wr.heap.size _ w1) hb hf => calls_behindM (by rfl) (by exact play_B (facts_takeM (facts_passM (facts_passM (facts_passM (facts_passM hf)))) (by rw [hA'.out]; kernel_rfl)) (by decide) (facts_takeM hf (by rw [hA'.out]; kernel_rfl)) (hBw w1 hg))) ?_
      refine fl_mvM 60 (by rfl) (by decide) (wanted_noneM (by rfl)) (by rw [hK.out]; rfl) (by rfl) _ (Or.inl (by rfl)) (.bool true) (by rfl) ?_
      refine fl_any2M 61 (by rfl) (by decide) (wanted_ifM hops 9 true (by rfl) 60 (by rfl) true (by rfl)) (fun _ u w => SomeBytes 65537 u w) (by rw [hK.out]; rfl) (.const (.int .i64 65537)) (.const (.int .i64 65537)) (.int .i64 65537) (.int .i64 65537) (by rfl) (by rfl) (fun ρ h1 h2 kk w1 (hg : GrowB wr.heap.size _ w1) hb hf => by refine upon_behindAnyM (φ := fun _ u w => SomeBytes 65537 u w) (by rfl) ?_; exact big65537 rfl h1 (hBw w1 hg)) (fun v61 => ?_)
      refine fl_anyM 62 (by rfl) (by decide) (wanted_ifM hops 9 true (by rfl) 60 (by rfl) true (by rfl)) (fun _ u w => IsAsk1 u w) (by rw [hK.out]; rfl) (fun kk w1 (hg : GrowB wr.heap.size _ w1) hb hf => by refine upon_behindAnyM (φ := fun _ u w => IsAsk1 u w) (by rfl) ?_; exact ask1_some (m := 65537) (v := v61) rfl rfl (facts_takeM (φ := fun _ u w => SomeBytes 65537 u w) hf (by rw [hA'.out]; kernel_rfl))) (fun v62 => ?_)
      refine fl_any2M 63 (by rfl) (by decide) (wanted_ifM hops 9 true (by rfl) 60 (by rfl) true (by rfl)) (fun _ u w => SomeBytes 65536 u w) (by rw [hK.out]; rfl) (.const (.int .i64 65536)) (.const (.int .i64 65536)) (.int .i64 65536) (.int .i64 65536) (by rfl) (by rfl) (fun ρ h1 h2 kk w1 (hg : GrowB wr.heap.size _ w1) hb hf => by refine upon_behindAnyM (φ := fun _ u w => SomeBytes 65536 u w) (by rfl) ?_; exact big65536 rfl h1 (hBw w1 hg)) (fun v63 => ?_)
      refine fl_anyM 64 (by rfl) (by decide) (wanted_ifM hops 9 true (by rfl) 60 (by rfl) true (by rfl)) (fun _ u w => IsAsk1 u w) (by rw [hK.out]; rfl) (fun kk w1 (hg : GrowB wr.heap.size _ w1) hb hf => by refine upon_behindAnyM (φ := fun _ u w => IsAsk1 u w) (by rfl) ?_; exact ask1_some (m := 65536) (v := v63) rfl rfl (facts_takeM (φ := fun _ u w => SomeBytes 65536 u w) hf (by rw [hA'.out]; kernel_rfl))) (fun v64 => ?_)
      refine fl_any2M 65 (by rfl) (by decide) (wanted_ifM hops 9 true (by rfl) 60 (by rfl) true (by rfl)) (fun _ u w => IsAsks u w) (by rw [hK.out]; rfl) (.tmp 62) (.tmp 64) (v62) (v64) (by rfl) (by rfl) (fun ρ h1 h2 kk w1 (hg : GrowB wr.heap.size _ w1) hb hf => by refine upon_behindAnyM (φ := fun _ u w => IsAsks u w) (by rfl) ?_; exact asks2 rfl h1 h2 (facts_takeM (facts_passM (facts_passM hf)) (by rw [hA'.out]; kernel_rfl)) (facts_takeM hf (by rw [hA'.out]; kernel_rfl)) (hBw w1 hg)) (fun v65 => ?_)
      refine fl_callM 66 (by rfl) (by decide) (wanted_ifM hops 9 true (by rfl) 60 (by rfl) true (by rfl)) (.bool true) (by rw [hK.out]; rfl) 19 _ _ (by rfl) [.slice none 0 0, v65] (by rfl) k19 (fun kk w1 (hg : GrowB wr.heap.size _ w1) hb hf => calls_behindM (by rfl) (by exact play_B (l := []) ⟨none, 0, 0, rfl, Reads.nil, Nat.le_refl _, Nat.zero_le _⟩ (by decide) (facts_takeM hf (by rw [hA'.out]; kernel_rfl)) (hBw w1 hg))) ?_
      refine fl_pickM 67 (by rfl) (by decide) (wanted_noneM (by rfl)) (by rw [hK.out]; rfl) (by rfl) _ _ _ (by rfl) true (by rfl) (.bool true) (by rfl) ?_
      refine fl_mvM 68 (by rfl) (by decide) (wanted_noneM (by rfl)) (by rw [hK.out]; rfl) (by rfl) _ (Or.inl (by rfl)) (.bool true) (by rfl) ?_
      refine fl_callM 69 (by rfl) (by decide) (wanted_ifM hops 17 true (by rfl) 68 (by rfl) true (by rfl)) (.bool true) (by rw [hK.out]; rfl) 15 _ _ (by rfl) [] (by rfl) k15 (fun kk w1 (hg : GrowB wr.heap.size _ w1) hb hf => calls_behindM (by rfl) (by exact call_B (known_any w1) (hBw w1 hg))) ?_
      refine fl_pickM 70 (by rfl) (by decide) (wanted_noneM (by rfl)) (by rw [hK.out]; rfl) (by rfl) _ _ _ (by rfl) true (by rfl) (.bool true) (by rfl) ?_
      refine fl_mvM 0 (by rfl) (by decide) (wanted_noneM (by rfl)) (by rw [hK.out]; rfl) (by rfl) _ (Or.inr (by rfl)) (.bool true) (by rfl) ?_
      refine fl_endM (fun _ _ w1 (hg : GrowB wr.heap.size _ w1) hend hfacts => hT _ _ ?_)
      clear hops hA' hK hT
      simp only [putsLM, Act.put, List.setIfInBounds_toArray, List.set_cons_zero, List.set_cons_succ]
      refine reg_endM ?_
      have hg8 : Grow w w1 := below_trans hgw hg.below hgw.size
      clear hfacts hend
      go_wp2_with fail
      go_ret
      exact ⟨rfl, hg8⟩
end Go.Proofs.Ytdpcokekilklfaa
