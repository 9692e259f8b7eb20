/- Bk5, Put, Rng, St1, Vo3. -/
import Derived.Test.YtmijcbfgfkeodaaGreatDoorGz15
import Derived.Maps.RangeRun
set_option linter.all false
set_option maxRecDepth 100000
section
namespace Go.Proofs.YtmijcbfgfkeodaaGreatDoor
open Go.RowKit Go.Hop
theorem id_info:(Tryz.prog.info? 26).map (fun i=>(i.zero,i.size,i.bytes))=some (some (.agg #[.int .i64 0,.int .i64 0,.int .i64 0]),3,24):=by kernel_rfl
theorem idE:Elem Tryz.prog 41 26 3 24 (.agg #[.int .i64 0,.int .i64 0,.int .i64 0]):=⟨Tryz.underlying41,info_parts id_info,rfl,by decide,by decide⟩
theorem ident_made {w:World} {o:Oper} {ρ:Operand→Value} {x:Operand} {a b c:Int} (ho:o.op=.buildSlice 41 1 #[(0,x)]) (hx:ρ x=.agg #[.int .i64 a,.int .i64 b,.int .i64 c]) :
 flowUpon Tryz.prog (fun u w'=>Grow w w'∧IsIn 3 1 [.int .i64 a,.int .i64 b,.int .i64 c] u w') ((execOp ρ o).run Tryz.prog w):=by
 obtain⟨dst,op,ty,pos,after,guard⟩:=o
 simp only at ho
 subst ho
 exact flowUpon_value (u := .slice (some ⟨w.heap.size,0,none⟩) 1 1) (w:=w.alloc (.cells #[.int .i64 a,.int .i64 b,.int .i64 c] 26)) (by go_simp) ⟨(Below.refl _ w).alloc (Nat.le_refl _) _,isIn_blk (Blk.made w _ _) rfl⟩
theorem ident_one (a b c:Int):∀ u∈[Value.int .i64 a,.int .i64 b,.int .i64 c],u.oneCell'=true:=by simp[Value.oneCell']
def NewRow (B:Nat) (e:TypeId) (size n:Nat) (xs:List Value) (u:Value) (w:World):Prop:=∃ V:Nat→Prop,Row w V e size u n xs∧∀ b,V b→B≤b∧b<w.heap.size
theorem newRow_lasting (B:Nat) (e:TypeId) (size n:Nat) (xs:List Value):Lasting (NewRow B e size n xs):=fun u w w' ⟨V,h,hV⟩ hg=>⟨V,h.grow hg,fun b hb=>⟨(hV b hb).1,Nat.lt_of_lt_of_le (hV b hb).2 hg.size⟩⟩
theorem app_nil {e t:TypeId} {size bytes:Nat} {z:Value} (E:Elem Tryz.prog t e size bytes z) {B:Nat} {w:World} {o:Oper} {ρ:Operand→Value} {s x:Operand} {u:Value} {n:Nat} {xs:List Value} (hB:B≤w.heap.size) (hI:IsIn size n xs u w) (hs:ρ s=.slice none 0 0) (hx:ρ x=u) (ho:o.op=.call { callee := .builtin .append,args:=#[s,x],argTypes:=#[t,t] }) (h1:∀ u∈xs,u.oneCell'=true) (hb:n*bytes≤140737488355328) :
 flowUpon Tryz.prog (fun v w'=>Grow w w'∧NewRow B e size n xs v w') ((execOp ρ o).run Tryz.prog w):=by
 obtain⟨A,rfl,h⟩:=hI
 refine flow_append_row E ho hs (Row.nil (V:=fun _=>False)) hx h.reads h1 (by rw[Nat.zero_add];exact hb) fun v' w' hR hj=>⟨hj.below (B:=w.heap.size) (fun b hb=>hb.elim) (Nat.le_refl _),?_⟩
 rw[Nat.zero_add,List.nil_append] at hR
 exact⟨_,hR,fun b hb=>hb.elim (fun h=>h.elim) fun h=>⟨Nat.le_trans hB h.1,h.2⟩⟩
theorem newRow_one {B:Nat} {e:TypeId} {size n:Nat} {xs:List Value} {u:Value} {w:World} (h:NewRow B e size n xs u w):∃ A c,u=.slice A n c:=by
 obtain⟨V,h,_⟩:=h
 obtain⟨A,c,e,_⟩:=h.in_
 exact⟨A,c,e⟩
def BookE (st:Nat) (z:Qs) (ep:Int) (l0:List Q.Ab) (k0:Int):Thing:=fun w V=>∃ A c cu,BookT st z ep (.slice A 0 c) [] l0 k0 cu w V
theorem BookE.framed (st:Nat) (z:Qs) (ep:Int) (l0:List Q.Ab) (k0:Int):Framed (BookE st z ep l0 k0):=fun w w' V ⟨A,c,cu,h⟩ hk=>⟨A,c,cu,BookT.framed _ _ _ _ _ _ _ _ w w' V h hk⟩
theorem bAdd_one (w:World) (st:Nat) (z:Qs) (ep:Int) (sl:Value) (s:ByteArray) (n x sq c:Nat) (l0:List Q.Ab) (k0:Int) (A:Option Addr) (D V:Nat→Prop) (hBk:BookT st z ep sl [(s,x)] l0 k0 (.slice none 0 0) w V) (hV:∀ b,V b→b<w.heap.size) (hd:DIn w D A 1 [(s,n)]) (hDl:∀ b,D b→b<w.heap.size) (hDV:∀ b,D b→¬ V b) (hc1:1≤c) (hc:c≤maxLen) (hadd:Q.addE l0 k0 sq 1=0) :
 Calls Tryz.prog 161 #[.pointer (some ⟨st,0,none⟩),.int .i64 0,.agg #[.int .i64 (sq:Int),.slice A 1 c]] w fun e w'=>e=.returned (.tuple #[])∧BookE st z ep (l0++[((sq:Int),[(s,n)])]) sq w' (Ext V w w')∧Just V w w':=by
 have k222:∀ (vs:Array Value) (w:World),(callFunc 222 vs).run Tryz.prog w=.ok (.enter 222 vs) w:=fun vs w=>by go_simp
 have hF:=bookL_framed st z ep sl [(s,x)] l0 k0 (.slice none 0 0)
 have hS:=Solo.begin_ hBk hV
 have hg0:=grow_alloc w (.cells #[.int .i64 (sq:Int),.slice A 1 c] 159)
 have hBy:=Blk.made w 159 #[.int .i64 (sq:Int),.slice A 1 c]
 obtain⟨y,HY⟩:∃ y:Nat,Hid (y=w.heap.size):=⟨_,rfl⟩
 obtain⟨wa,HA_⟩:∃ wa:World,Hid (wa=w.alloc (.cells #[.int .i64 (sq:Int),.slice A 1 c] 159)):=⟨_,rfl⟩
 rw[←HA_.out] at hg0 hBy
 rw[←HY.out] at hBy
 have hSa:=hS.join hF hg0 (R:=Cell y 159 #[.int .i64 (sq:Int),.slice A 1 c]) (U:=fun b=>b=y) ⟨rfl,hBy⟩ (fun b hb=>by have:=HY.out;have:=hBy.lt;omega)
 have hFa:=hF.cons (Cell.framed y 159 #[.int .i64 (sq:Int),.slice A 1 c])
 have hY1:=hSa.blk 0 rfl
 have hs1:=hSa.blk 1 rfl
 unfold bkC at hs1
 clear hBy
 go_enter Tryz.func161,Tryz.ntmps161
 go_wp2_with fail
 rw[←HA_.out,←HY.out]
 refine wp_region_flow 7 37 [] rfl rfl (by kernel_rfl) (by kernel_rfl) (by kernel_rfl) ?_ ?_
 ·intro x hx φ he
  cases hx
 intro ops' A' K' T hops hA' hK hT
 refine fl_mvN 6 (.pointer (some ⟨st,0,none⟩)) ?_
 refine fl_mvN 7 (.int .i64 0) ?_
 refine fl_op1G 8 (.tmp 6) (.pointer (some ⟨st,0,none⟩)) (.pointer (some ⟨st,0,none⟩)) ?_
 refine fl_op1G 9 (.tmp 8) (.pointer (some ⟨st,0,none⟩)) (.pointer (some ⟨st,3,none⟩)) ?_
 refine fl_op2N 10 (.tmp 9) (.tmp 7) (.pointer (some ⟨st,3,none⟩)) (.int .i64 0) (.pointer (some ⟨st,3,none⟩)) (fun ρ h1 h2 kk w1 (hg:Grow _ w1) hb hf=>by go_simp) ?_
 refine fl_op1N 11 (.tmp 10) (.pointer (some ⟨st,3,none⟩)) (.pointer (some ⟨z.a,0,none⟩)) (fun ρ h1 kk w1 (hg:Grow _ w1) hb hf=>by have c:=(hs1.grow hg).cell 3;go_simp) ?_
 refine fl_op1N 12 (.tmp 5) (.pointer (some ⟨y,0,none⟩)) (.agg #[.int .i64 (sq:Int),.slice A 1 c]) (fun ρ h1 kk w1 (hg:Grow _ w1) hb hf=>by have c0:=(hY1.grow hg).cell 0;have c1:=(hY1.grow hg).cell 1;go_simp) ?_
 refine fl_end (fun _ _ w1 (hg:Grow _ w1) _ hfacts=>hT _ _ ?_)
 clear hops hA' hK hT
 simp only[putsL,Act.put,List.setIfInBounds_toArray,List.set_cons_zero,List.set_cons_succ,List.drop_succ_cons,List.drop_zero]
 have hS1:=hSa.grows hFa hg
 have J1:=Just.of_grow (V:=Lic V w) (hg0.trans hg)
 have hd1:=In.grow hd (hg0.trans hg)
 have hA:=Q.Add_any w1 D z.a l0 k0 sq A 1 c [(s,n)] hd1 hc1 hc
 rw[hadd] at hA
 have hcall:=hS1.at_ 3 rfl hFa hA
 go_wp2_with fail
 refine hcall.mono ?_
 rintro en w2 ⟨rfl,hj2,hS2⟩
 have hl1:Q.addL l0 k0 sq 1 [(s,n)]=l0++[((sq:Int),[(s,n)])]:=if_pos hadd
 have hl2:Q.addK l0 k0 sq 1=(sq:Int):=if_pos hadd
 rw[hl1,hl2] at hS2
 obtain⟨l1,HL⟩:∃ l1,Hid (l1=l0++[((sq:Int),[(s,n)])]):=⟨_,rfl⟩
 rw[←HL.out] at hS2
 have hS2:Solo (Lic V w) (Many (Cell y 159 #[.int .i64 (sq:Int),.slice A 1 c] :: bookL st z ep sl [(s,x)] l1 sq (.slice none 0 0))) w2:=hS2
 have hFb:=(bookL_framed st z ep sl [(s,x)] l1 sq (.slice none 0 0)).cons (Cell.framed y 159 #[.int .i64 (sq:Int),.slice A 1 c])
 have hY2:=hS2.blk 0 rfl
 have hs2:=hS2.blk 1 rfl
 unfold bkC at hs2
 have J2:=J1.trans hj2
 have hlic:∀ b,D b→¬ Lic V w b:=fun b hb hl=>hl.elim (hDV b hb) (fun h=>by have:=hDl b hb;omega)
 have hd2:DIn w2 D A 1 [(s,n)]:=In.just hd J2 hlic
 have k1:=hs2.cell 1
 have hDF:=hS2.atE (ι:=Value) (C:=fun i e=>e=.returned i∧i.oneCell'=true) (S':=fun i w V=>Row w V 29 2 i 0 []) 2 rfl hFb (fun U hU hUl=>(delF_one w2 s n x y c sq A D U sl hU hd2 hY2).mono fun e w' ⟨i,h1,h2,h3,h4⟩=>⟨i,⟨h1,h4⟩,h2.mono fun b hb => .inl hb,h3⟩)
 go_wp2_with fail
 clear k1
 refine hDF.mono ?_
 rintro en w3 ⟨sl',⟨rfl,hone⟩,hj3,hS3⟩
 obtain⟨U3,hR3,_⟩:=hS3.see 2 rfl
 obtain⟨A9,c9,rfl,_⟩:=hR3.in_
 have hS3:Solo (Lic V w) (Many [Cell y 159 #[.int .i64 (sq:Int),.slice A 1 c],Cell st 148 (bkC ep sl z (.slice none 0 0)),Smp (.slice A9 0 c9) [],Q.QueueAt z.a l1 sq,Q.QueueAt z.b [] 0,Q.QueueAt z.c [] 0,Q.QueueAt z.d [] 0]) w3:=hS3
 have hFc:AllFramed [Cell y 159 #[.int .i64 (sq:Int),.slice A 1 c],Cell st 148 (bkC ep sl z (.slice none 0 0)),Smp (.slice A9 0 c9) [],Q.QueueAt z.a l1 sq,Q.QueueAt z.b [] 0,Q.QueueAt z.c [] 0,Q.QueueAt z.d [] 0]:=((((((AllFramed.nil.cons (Q.QueueAt.framed _ _ _)).cons (Q.QueueAt.framed _ _ _)).cons (Q.QueueAt.framed _ _ _)).cons (Q.QueueAt.framed _ _ _)).cons (Smp.framed _ _)).cons (Cell.framed _ _ _)).cons (Cell.framed _ _ _)
 have hs3:=hS3.blk 1 rfl
 have hP3:=(hS3.lics 1 rfl).1
 unfold bkC at hs3
 have k1:=hs3.cell 1
 have f1:=hs3.frozen 1
 have hS4:=hS3.puts 1 rfl hFc 1 (.slice A9 0 c9)
 have j4:=((J2.trans hj3)).put (V:=Lic V w) hP3 1 (.slice A9 0 c9)
 obtain⟨w4,HW4⟩:∃ w4:World,Hid (w4=w3.setCell ⟨st,1,none⟩ (.slice A9 0 c9)):=⟨_,rfl⟩
 rw[←HW4.out] at hS4 j4
 have hS4:Solo (Lic V w) (Many (Cell y 159 #[.int .i64 (sq:Int),.slice A 1 c] :: bookL st z ep (.slice A9 0 c9) [] l1 sq (.slice none 0 0))) w4:=hS4
 have hFd:=(bookL_framed st z ep (.slice A9 0 c9) [] l1 sq (.slice none 0 0)).cons (Cell.framed y 159 #[.int .i64 (sq:Int),.slice A 1 c])
 have hY4:=hS4.blk 0 rfl
 have hs4:=hS4.blk 1 rfl
 unfold bkC at hs4
 go_wp2_with fail
 rw[←HW4.out]
 clear k1 f1
 refine wp_region_flow 13 37 [(9,.inr (fun _=>IsIn 3 1 [.int .i64 0,.int .i64 0,.int .i64 (sq:Int)])),(10,.inr (fun _=>NewRow w4.heap.size 26 3 1 [.int .i64 0,.int .i64 0,.int .i64 (sq:Int)]))] rfl rfl (by kernel_rfl) (by kernel_rfl) (by kernel_rfl) ?_ ?_
 ·intro x hx φ he
  simp only[List.mem_cons,List.not_mem_nil,or_false] at hx
  rcases hx with rfl|rfl<;>cases he
  all_goals first|exact lasts_quiet (lasting_bytes _)|first|exact lasts_quiet (isIn_lasting _ _ _)|exact lasts_quiet (newRow_lasting _ _ _ _ _)
 intro ops' A' K' T hops hA' hK hT
 refine fl_mvN 24 (.pointer (some ⟨st,0,none⟩)) ?_
 refine fl_mvN 25 (.pointer (some ⟨st,0,none⟩)) ?_
 refine fl_op1N 26 (.tmp 25) (.pointer (some ⟨st,0,none⟩)) (.pointer (some ⟨st,0,none⟩)) (fun ρ h1 kk w5 (hg:Grow _ w5) hb hf=>by go_simp) ?_
 refine fl_op1N 27 (.tmp 26) (.pointer (some ⟨st,0,none⟩)) (.pointer (some ⟨st,7,none⟩)) (fun ρ h1 kk w5 (hg:Grow _ w5) hb hf=>by go_simp) ?_
 refine fl_op1N 28 (.tmp 27) (.pointer (some ⟨st,7,none⟩)) (.slice none 0 0) (fun ρ h1 kk w5 (hg:Grow _ w5) hb hf=>by have c:=(hs4.grow hg).cell 7;go_simp) ?_
 refine fl_mvN 29 (.int .i64 0) ?_
 refine fl_op1N 30 (.tmp 5) (.pointer (some ⟨y,0,none⟩)) (.pointer (some ⟨y,0,none⟩)) (fun ρ h1 kk w5 (hg:Grow _ w5) hb hf=>by go_simp) ?_
 refine fl_op1N 31 (.tmp 30) (.pointer (some ⟨y,0,none⟩)) (.int .i64 (sq:Int)) (fun ρ h1 kk w5 (hg:Grow _ w5) hb hf=>by have c:=(hY4.grow hg).cell 0;go_simp) ?_
 refine fl_op2N 32 (.tmp 29) (.tmp 31) (.int .i64 0) (.int .i64 (sq:Int)) (.agg #[.int .i64 0,.int .i64 0,.int .i64 (sq:Int)]) (fun ρ h1 h2 kk w5 (hg:Grow _ w5) hb hf=>by go_simp) ?_
 refine fl_any1 33 (by rfl) (by decide) (wanted_none (by rfl)) (fun _=>IsIn 3 1 [.int .i64 0,.int .i64 0,.int .i64 (sq:Int)]) (by rw[hK.out];rfl) (.tmp 32) (.agg #[.int .i64 0,.int .i64 0,.int .i64 (sq:Int)]) (by rfl) (fun ρ h1 kk w5 (hg:Grow _ w5) hb hf=>by refine upon_behindAny (φ:=fun _=>IsIn 3 1 [.int .i64 0,.int .i64 0,.int .i64 (sq:Int)]) (by rfl) ?_;exact ident_made rfl h1) (fun v33=>?_)
 refine fl_any2 34 (by rfl) (by decide) (wanted_none (by rfl)) (fun _=>NewRow w4.heap.size 26 3 1 [.int .i64 0,.int .i64 0,.int .i64 (sq:Int)]) (by rw[hK.out];rfl) (.tmp 28) (.tmp 33) (.slice none 0 0) (v33) (by rfl) (by rfl) (fun ρ h1 h2 kk w5 (hg:Grow _ w5) hb hf=>by refine upon_behindAny (φ:=fun _=>NewRow w4.heap.size 26 3 1 [.int .i64 0,.int .i64 0,.int .i64 (sq:Int)]) (by rfl) ?_;exact app_nil idE hg.size (facts_take hf (by rw[hA'.out];kernel_rfl)) h1 h2 rfl (ident_one _ _ _) (by decide)) (fun v34=>?_)
 refine fl_op1N 35 (.tmp 24) (.pointer (some ⟨st,0,none⟩)) (.pointer (some ⟨st,0,none⟩)) (fun ρ h1 kk w5 (hg:Grow _ w5) hb hf=>by go_simp) ?_
 refine fl_op1N 36 (.tmp 35) (.pointer (some ⟨st,0,none⟩)) (.pointer (some ⟨st,7,none⟩)) (fun ρ h1 kk w5 (hg:Grow _ w5) hb hf=>by go_simp) ?_
 refine fl_end (fun _ _ w5 (hg:Grow _ w5) _ hfacts=>hT _ _ ?_)
 clear hops hA' hK hT
 simp only[putsL,Act.put,List.setIfInBounds_toArray,List.set_cons_zero,List.set_cons_succ,List.drop_succ_cons,List.drop_zero]
 obtain⟨A6,c6,rfl⟩:=newRow_one hfacts.1
 clear hfacts
 have hS5:=hS4.grows hFd hg
 have J5:=j4.trans (Just.of_grow hg)
 have hs5:=hS5.blk 1 rfl
 have hP5:=(hS5.lics 1 rfl).1
 unfold bkC at hs5
 have k7:=hs5.cell 7
 have f7:=hs5.frozen 7
 have hS6:=hS5.puts 1 rfl hFd 7 (.slice A6 1 c6)
 have J6:=J5.put (V:=Lic V w) hP5 7 (.slice A6 1 c6)
 go_wp2_with fail
 go_end0
 have hS6:Solo (Lic V w) (Many (Cell y 159 #[.int .i64 (sq:Int),.slice A 1 c] :: bookL st z ep (.slice A9 0 c9) [] l1 sq (.slice A6 1 c6))) _:=hS6
 obtain⟨r1,r2⟩:=Solo.done (l:=bookL st z ep (.slice A9 0 c9) [] l1 sq (.slice A6 1 c6)) hS6.drop1 J6 hV
 rw[←HL.out]
 exact⟨rfl,⟨A9,c9,_,r1⟩,r2⟩
end Go.Proofs.YtmijcbfgfkeodaaGreatDoor
end
section
namespace Go.Hop
open Go.RowKit
section
variable {P:Program} {ops:Array Oper} {rest:List Oper} {o:Oper} {a:Act} {w:World} {Q:Exit→Act→World→Prop}
theorem run_storeVar_cell (w:World) (b k:Nat) (ty:TypeId) (v:Value) (hc:(w.cell? ⟨b,k,none⟩).isSome=true) (hf:w.frozen? ⟨b,k,none⟩=false) (hi:(P.info? ty).map (·.size)=some 1) (h1:v.oneCell'=true) :
 (storeVar ty ⟨b,k,none⟩ v).run P w=.ok () (w.setCell ⟨b,k,none⟩ v):=by
 have hcs:v.cells=#[v]:=by cases v<;>first|rfl|cases h1
 have:=run_storeCells_cells (P:=P) b k [v] 0 w (fun j hj=>by simp at hj;subst hj;simpa using hc) (fun j hj=>by simp at hj;subst hj;simpa using hf) (fun x hx=>by simp at hx;subst hx;exact h1)
 cases hq:P.info? ty with
 | none=>simp[hq] at hi
 | some i=>
   have hs:1=i.size:=by simp[hq] at hi;omega
   simp only[Nat.add_zero] at this
   simp[storeVar,sizeOf,typeInfo,hq,hcs,←hs] at this ⊢
   simpa [World.setCells] using this
theorem wpList_put1 (hw:Region.wanted o (yielded ops a.tmps)=true) (ty:TypeId) (x y:Operand) (ho:o.op=.store ty x y) (g b:Nat) (hx:a.eval x=.pointer (some ⟨g,b,none⟩)) (v:Value) (hy:a.eval y=v) {t:TypeId} {cs:Array Value} (hB:Blk w g t cs) (hl:b<cs.size) (h1:v.oneCell'=true) (hi:(P.info? ty).map (·.size)=some 1)
 (h:∀ w',Hid (w'=w.setCell ⟨g,b,none⟩ v)→wpList P ops Q rest (a.put o.dst undef) w'):wpList P ops Q (o :: rest) a w:=by
 unfold wpList
 rw[if_pos hw]
 refine .inl ?_
 unfold Oper.wp execOp
 simp only[ho,hx,hy,Instr.storeAt,Instr.sureAddr,Sem.run_bind,Sem.run_pure,Result.andThen_ok,run_storeVar_cell w g b ty v (by rw[hB.cell,Array.getElem?_eq_getElem hl];rfl) (hB.frozen _) hi h1]
 exact h _ rfl
theorem wpList_putS (hw:Region.wanted o (yielded ops a.tmps)=true) (ty:TypeId) (x y:Operand) (ho:o.op=.store ty x y) {l:List Thing} {R:Nat→Prop} {w0:World} (hS:Solo R (Many l) w) (hF:AllFramed l) (hj:Just R w0 w) (i:Nat) {g b:Nat} {t:TypeId} {cs:Array Value} (hi0:l[i]?=some (Cell g t cs)) (hx:a.eval x=.pointer (some ⟨g,b,none⟩)) (v:Value) (hy:a.eval y=v) (hl:b<cs.size) (h1:v.oneCell'=true) (hi:(P.info? ty).map (·.size)=some 1)
 (h:∀ w',Solo R (Many (l.set i (Cell g t (cs.setIfInBounds b v)))) w'→Just R w0 w'→wpList P ops Q rest (a.put o.dst undef) w'):wpList P ops Q (o :: rest) a w:=
 wpList_put1 hw ty x y ho g b hx v hy (hS.blk i hi0) hl h1 hi fun w' e=>by
  rw[e.out]
  exact h _ (hS.puts i hi0 hF b v) (hj.put (hS.lics i hi0).1 b v)
theorem _root_.Go.RowKit.Just.ext_ {V:Nat→Prop} {w w1 w2:World} (h1:Just V w w1) (h2:Just (Ext V w w1) w1 w2):Just V w w2:=
 ⟨h2.os.trans h1.os,h2.tape.trans h1.tape,h2.output.trans h1.output,Nat.le_trans h1.size h2.size,fun b hb hne=>(h2.block b (Nat.lt_of_lt_of_le hb h1.size) fun h=>h.elim hne fun h=>by have:=h.1;omega).trans (h1.block b hb hne)⟩
theorem Solo.renew {P:Nat→Prop} {S R:Thing} {l:List Thing} {w w':World} (i:Nat) (hi:l[i]?=some S) (hF:AllFramed l) (h:Solo P (Many l) w) (hg:Grow w w') {U:Nat→Prop} (hR:R w' U) (hU:∀ b,U b→w.heap.size≤b∧b<w'.heap.size):Solo P (Many (l.set i R)) w':=
 (h.join hF hg hR hU).turn fun V hV=>Many.unpick l i S R hi (Sep.imp (show Sep R (Many l) w' V from hV) (fun _ h=>h) fun U1 hU1=>by
  obtain⟨U2,h1,h2⟩:=(Many.pick l i S hi hU1).snd
  exact Many.wide _ w' U2 U1 h2 h1)
end
section
variable {κ:Type} {P:Program} {t kt et:TypeId} {ke:κ→Value} {w w':World} {b:Nat} {V V':Nat→Prop}
theorem GMap.empty (h:GMap ke b [] w V):∃ c,w.heap[b]?=some (.map #[] c):=by
 obtain⟨_,_,es,c,h3,h4⟩:=h
 have:es=#[]:=by
  have h5:=congrArg List.length h4
  simp at h5
  exact h5
 subst this
 exact⟨c,h3⟩
theorem GMap.range_nil (ht:P.underlying t=some (.map kt et)) {c:Nat} (h:w.heap[b]?=some (.map #[] c)) :
 (Instr.range t (.map (some b))).run P w=.ok (.pointer (some ⟨w.heap.size,0,none⟩)) (w.alloc (.mapIter (some b) c #[] c)):=by
 have hg:(getObj b).run P w=.ok (.map #[] c) w:=MapKept.run_getObj_map h
 simp[Instr.range,run_underlying ht,hg,Result.andThen]
theorem GMap.next_nil {c r:Nat} (ty:TypeId) (hr:w.heap[r]?=some (.mapIter (some b) c #[] c)) (h:w.heap[b]?=some (.map #[] c)):(Instr.next (.pointer (some ⟨r,0,none⟩)) false ty).run P w=.ok (.tuple #[.bool false]) w:=by
 rcases run_next_at (P:=P) w ty r b c c #[] #[] c hr h (by simp) (Nat.le_refl _) with ⟨_,h⟩|⟨e,he,_⟩
 ·exact h
 ·simp[leftOf] at he
end
def PtrRow (e:TypeId) (v:Value) (l:List Nat):Thing:=fun w V=>Row w V e 1 v l.length (l.map fun p=>Value.pointer (some ⟨p,0,none⟩))
theorem PtrRow.framed (e:TypeId) (v:Value) (l:List Nat):Framed (PtrRow e v l):=fun _ _ _ h hk=>Row.keep h fun b hb _=>hk b hb
theorem Row.range {w:World} {V:Nat→Prop} {e:TypeId} {size n:Nat} {v:Value} {xs:List Value} (h:Row w V e size v n xs) (hn:0<n):∃ g cap,v=.slice (some ⟨g,0,none⟩) n cap∧V g∧g<w.heap.size∧n≤cap∧cap≤maxLen∧w.rangeAt g 0 xs:=by
 obtain⟨A,c,e2,hI,hc,hm⟩:=h.in_
 rcases h.2 with ⟨_,h1⟩|⟨g,cap,cur,h1,hV,hg,_⟩
 ·omega
 ·rw[h1] at e2
  injection e2 with e3 e4 e5
  subst e3 e5
  obtain⟨ad,ea,_,hb,hcell⟩:=hI.2 hn
  injection ea with ea
  subst ea
  refine⟨g,cap,h1,hV,hb,hc,hm,fun j u hu=>?_⟩
  rw[←Addr.add_mid]
  exact hcell j u hu
theorem PtrRow.at {e:TypeId} {v:Value} {l:List Nat} {w:World} {V:Nat→Prop} (h:PtrRow e v l w V) (hl:0<l.length):∃ g cap,v=.slice (some ⟨g,0,none⟩) l.length cap∧l.length≤cap∧cap≤maxLen∧g<w.heap.size∧∀ (w':World),Grow w w'→∀ k (hk:k<l.length),w'.cell? ⟨g,k,none⟩=some (.pointer (some ⟨l[k],0,none⟩)):=by
 obtain⟨g,cap,e1,_,hg,hc,hm,hr⟩:=Row.range h hl
 refine⟨g,cap,e1,hc,hm,hg,fun w' hw k hk=>?_⟩
 have:=hr k (.pointer (some ⟨l[k],0,none⟩)) (by simp[hk])
 rw[Nat.zero_add] at this
 exact (hw.cell (p:=⟨g,k,none⟩) hg).trans this
section
variable {Pr:Program} {f:FuncId} {args:Array Value} {S:Thing} {l:List Thing} {w:World} {P:Nat→Prop}
theorem Solo.atW {ι:Type} {C:ι→Ending→World→Prop} {S':ι→Thing} (i:Nat) (hi:l[i]?=some S) (hF:AllFramed l) (h:Solo P (Many l) w) (hc:∀ U:Nat→Prop,S w U→(∀ b,U b→b<w.heap.size)→(∀ b,U b→P b)→Calls Pr f args w fun e w'=>∃ k,C k e w'∧S' k w' (Ext U w w')∧Just U w w') :
 Calls Pr f args w fun e w'=>∃ k,C k e w'∧Just P w w'∧Solo P (Many (l.set i (S' k))) w':=by
 obtain⟨h0,V,h1,h4⟩:=h
 obtain⟨V1,V2,a,b,c,d,e⟩:=Many.pick l i S hi h1
 have hR:=Many.framed (l.eraseIdx i) fun R hR=>hF R (List.mem_of_mem_eraseIdx hR)
 refine (hc V1 a (fun x hx=>(h4 x (c x hx)).2) fun x hx=>(h4 x (c x hx)).1).mono fun en w' ⟨k,he,hs,hj⟩=>⟨k,he,hj.imp fun x hx=>(h4 x (c x hx)).1,fun b hb=>h0 b (Nat.le_trans hj.size hb),Ext V w w',Many.unpick l i S (S' k) hi ⟨Ext V1 w w',V2,hs,hR w w' V2 b fun x hx=>hj.block x (h4 x (d x hx)).2 (fun h1=>e x h1 hx),fun x hx=>?_,fun x hx => .inl (d x hx),fun x hx h2=>?_⟩,ext_lt h4 h0 hj.size⟩
 ·rcases hx with hx|hx
  ·exact .inl (c x hx)
  ·exact .inr hx
 ·rcases hx with hx|hx
  ·exact e x hx h2
  ·have:=(h4 x (d x h2)).2;have:=hx.1;omega
end
section
variable {P:Program} {ops:Array Oper} {rest:List Oper} {o:Oper} {a:Act} {w:World} {Q:Exit→Act→World→Prop}
theorem wpList_load_rec (hw:Region.wanted o (yielded ops a.tmps)=true) (ty:TypeId) (x:Operand) (ho:o.op=.load ty x) (g b:Nat) (hx:a.eval x=.pointer (some ⟨g,b,none⟩)) (cs:List Value) (hr:w.rangeAt g b cs) {fs:Array Field} (hu:P.underlying ty=some (.struct fs)) (hi:(P.info? ty).map (·.size)=some cs.length)
 (h:wpList P ops Q rest (a.put o.dst (.agg cs.toArray)) w):wpList P ops Q (o :: rest) a w:=by
 unfold wpList
 rw[if_pos hw]
 exact .inl (wp_load_mid ty x ho g b hx cs _ hr hu rfl hi h)
end
theorem Blk.range {w:World} {g:Nat} {t:TypeId} {vs:List Value} (h:Blk w g t vs.toArray) (b:Nat) (cs:List Value) (hc:vs.drop b=cs):w.rangeAt g b cs:=fun j u hu=>by
 subst hc
 rw[h.cell]
 simpa using hu
end Go.Hop
end
section
namespace Go.Proofs.YtmijcbfgfkeodaaGreatDoor
open Go.RowKit Go.Hop Go.Proofs.YtmijcbfgfkeodaaGreatDoor.V
theorem iGrow_1 (w:World):Calls Tryz.prog 211 #[.slice none 0 0,.int .i64 1] w fun e w'=>∃ v,e=.returned v∧Row w' (fun b=>w.heap.size≤b∧b<w'.heap.size) 26 3 v 0 []∧Grow w w':=by
 obtain⟨i,hi,hz,hs,hb⟩:=idE.info
 go_enter Tryz.func211,Tryz.ntmps211
 go_wp2_with (at_builtin;refine Lib.wpList_append_run _ rfl _ _ _ _ rfl _ _ rfl rfl _ _ (Lib.run_append_nil_zeros _ 41 3 _ 26 i (.agg #[.int .i64 0,.int .i64 0,.int .i64 0]) .i64 .i64 Tryz.underlying41 Tryz.underlying3 hi hz 1 (by omega) (by omega) (by omega) (by rw[hb];omega)) ?_)
 have hge:=grownCap_ge w 1 0 26
 have hle:grownCap w 1 0 26≤maxLen:=grownCap_le_maxLen w 1 0 26 (by unfold maxLen;omega)
 generalize grownCap w 1 0 26=cap at hge hle
 have hcs:(Builtin.zeroCells #[Value.int .i64 0,.int .i64 0,.int .i64 0] 1++Builtin.zeroCells #[Value.int .i64 0,.int .i64 0,.int .i64 0] (cap-1)).size=cap*3:=by
  rw[Array.size_append,size_zeroCells,size_zeroCells,show (#[Value.int .i64 0,.int .i64 0,.int .i64 0]:Array Value).size=3 from rfl];omega
 generalize Builtin.zeroCells #[Value.int .i64 0,.int .i64 0,.int .i64 0] 1++Builtin.zeroCells #[Value.int .i64 0,.int .i64 0,.int .i64 0] (cap-1)=cur at hcs
 have hc0:¬ cap<0:=by omega
 go_wp2_with fail
 go_ret
 refine⟨_,rfl,⟨rfl,.inr ⟨w.heap.size,cap,cur,rfl,⟨Nat.le_refl _,by simp⟩,?_,Nat.zero_le _,hle,hcs,by simp⟩⟩,Grow.drew ((Below.refl _ _).alloc (Nat.le_refl _) _)⟩
 exact heap_alloc_new w _
theorem iConcat_1 (w:World) (b:Nat) (A:Option Addr) (c:Nat) (hB:Blk w b 41 #[.slice none 0 0,.slice A 1 c]) (D:Nat→Prop) (xs:List Value) (hxs:∀ u∈xs,u.oneCell'=true) (hI:In w D 3 A 1 xs) :
 Calls Tryz.prog 138 #[.slice (some ⟨b,0,none⟩) 2 2] w fun e w'=>∃ v,e=.returned v∧Row w' (fun b=>w.heap.size≤b∧b<w'.heap.size) 26 3 v 1 xs∧Grow w w':=by
 have e0:=hB.cell 0
 have e1:=hB.cell 1
 have hG:=iGrow_1 w
 go_enter Tryz.func138,Tryz.ntmps138
 go_wp2_with fail
 go_loopw [3,11] (fun s i wr=>((s=.int .i64 0∧i=.int .i64 0)∨(s=.int .i64 0∧i=.int .i64 1)∨(s=.int .i64 1∧i=.int .i64 2))∧w=wr) (fun _ i _=>2-(intOf i).toNat)
 case atStart=>exact⟨.inl ⟨rfl,rfl⟩,rfl⟩
 case round=>
  obtain⟨hsi,rfl⟩:=hrel
  rcases hsi with ⟨rfl,rfl⟩|⟨rfl,rfl⟩|⟨rfl,rfl⟩
  ·go_wp2_with fail
   go_roundw
   case rel=>exact⟨.inr (.inl ⟨rfl,rfl⟩),by trivial⟩
   case measure=>simp[intOf]
  ·go_wp2_with fail
   go_roundw
   case rel=>exact⟨.inr (.inr ⟨rfl,rfl⟩),by trivial⟩
   case measure=>simp[intOf]
  ·go_wp2_with fail
   refine hG.mono ?_
   rintro e w1 ⟨v1,rfl,hR1,hg1⟩
   go_wp2_with fail
   go_loopw [6,27] (fun v i wr=>((i=.int .i64 0∧Row wr (fun b=>w.heap.size≤b∧b<wr.heap.size) 26 3 v 0 [])∨(i=.int .i64 1∧Row wr (fun b=>w.heap.size≤b∧b<wr.heap.size) 26 3 v 0 [])∨(i=.int .i64 2∧Row wr (fun b=>w.heap.size≤b∧b<wr.heap.size) 26 3 v 1 xs))∧Grow w wr) (fun _ i _=>2-(intOf i).toNat)
   case atStart=>exact⟨.inl ⟨rfl,hR1⟩,hg1⟩
   case round=>
    obtain⟨hsi,hgr⟩:=hrel
    have e0:=(hB.grow hgr).cell 0
    have e1:=(hB.grow hgr).cell 1
    have hwr:=hgr.size
    rcases hsi with ⟨rfl,hR⟩|⟨rfl,hR⟩|⟨rfl,hR⟩
    ·go_wp2_with (at_builtin;refine stay ?_)
     refine stay_out ?_
     refine wpList_row idE _ rfl (.tmp 31) (.tmp 32) rfl _ 0 [] rfl hR 0 none 0 0 [] rfl Reads.nil (by simp) (by decide) ?_
     intro v2 w2 hR2 hj2
     have hg2:Grow w w2:=Below.trans hgr (hj2.below (B:=w.heap.size) (fun b hb=>hb.1) hwr)
     have hR2:=hR2.mono (V':=fun b=>w.heap.size≤b∧b<w2.heap.size) fun b hb=>hb.elim (fun h=>⟨h.1,Nat.lt_of_lt_of_le h.2 hj2.size⟩) fun h=>⟨Nat.le_trans hwr h.1,h.2⟩
     go_wp2_with fail
     go_roundw
     case rel=>exact⟨.inr (.inl ⟨rfl,hR2⟩),hg2⟩
     case measure=>simp[intOf]
    ·go_wp2_with (at_builtin;refine stay ?_)
     refine stay_out ?_
     refine wpList_row idE _ rfl (.tmp 31) (.tmp 32) rfl _ 0 [] rfl hR _ A 1 c xs rfl (hI.grow hgr).reads hxs (by decide) ?_
     intro v2 w2 hR2 hj2
     have hg2:Grow w w2:=Below.trans hgr (hj2.below (B:=w.heap.size) (fun b hb=>hb.1) hwr)
     have hR2:=hR2.mono (V':=fun b=>w.heap.size≤b∧b<w2.heap.size) fun b hb=>hb.elim (fun h=>⟨h.1,Nat.lt_of_lt_of_le h.2 hj2.size⟩) fun h=>⟨Nat.le_trans hwr h.1,h.2⟩
     go_wp2_with fail
     go_roundw
     case rel=>exact⟨.inr (.inr ⟨rfl,hR2⟩),hg2⟩
     case measure=>simp[intOf]
    ·go_wp2_with fail
     go_ret
     exact⟨_,rfl,hR,hgr⟩
theorem iins_1 (w:World) (A:Option Addr) (c:Nat) (fv:Value):Calls Tryz.prog 275 #[.slice A 1 c,.int .i64 0,.int .i64 1,fv] w fun e w'=>e=.returned (.tuple #[])∧w=w':=by
 go_enter Tryz.func275,Tryz.ntmps275
 go_wp2_with fail
 go_loopw [8] (fun i wr=>i=.int .i64 1∧w=wr) (fun _ _=>0)
 case atStart=>exact⟨rfl,rfl⟩
 case round=>
  obtain⟨rfl,rfl⟩:=hrel
  go_wp2_with fail
  go_end0
  exact⟨rfl,rfl⟩
theorem ipdq_1 (w:World) (A:Option Addr) (c:Nat) (l:Int) (fv:Value):Calls Tryz.prog 212 #[.slice A 1 c,.int .i64 0,.int .i64 1,.int .i64 l,fv] w fun e w'=>e=.returned (.tuple #[])∧w=w':=by
 have hI:=iins_1 w A c fv
 go_enter Tryz.func212,Tryz.ntmps212
 go_wp2_with fail
 go_loopw [1,2] (fun a b wr=>a=.int .i64 0∧b=.int .i64 1∧w=wr) (fun _ _ _=>0)
 case atStart=>exact⟨rfl,rfl,rfl⟩
 case round=>
  obtain⟨rfl,rfl,rfl⟩:=hrel
  go_wp2_with fail
  refine hI.mono ?_
  rintro e w1 ⟨rfl,rfl⟩
  go_wp2_with fail
  refine bodyPost_ret (results_none rfl _ _ _) rfl ?_
  exact⟨rfl,rfl⟩
theorem iSort_1 (w:World) (A:Option Addr) (c:Nat) (fv:Value):Calls Tryz.prog 139 #[.slice A 1 c,fv] w fun e w'=>e=.returned (.tuple #[])∧w=w':=by
 have hL:=len_one w
 have hP:=fun l=>ipdq_1 w A c l fv
 go_enter Tryz.func139,Tryz.ntmps139
 go_wp2_with fail
 refine hL.mono ?_
 rintro e w1 ⟨l,rfl,rfl⟩
 go_wp2_with fail
 refine (hP l).mono ?_
 rintro e w1 ⟨rfl,rfl⟩
 go_wp2_with fail
 go_end0
 exact⟨rfl,rfl⟩
theorem iCompact_1 (w:World) (A:Option Addr) (c:Nat):Calls Tryz.prog 142 #[.slice A 1 c] w fun e w'=>e=.returned (.slice A 1 c)∧w=w':=by
 go_enter Tryz.func142,Tryz.ntmps142
 go_wp2_with fail
 go_ret
 exact⟨rfl,rfl⟩
theorem iClip_1 (w:World) (A:Option Addr) (c:Nat) (hc:1≤c):Calls Tryz.prog 141 #[.slice A 1 c] w fun e w'=>e=.returned (.slice A 1 1)∧w=w':=by
 have h1:¬ c<1:=by omega
 go_enter Tryz.func141,Tryz.ntmps141
 cases A with
 | none=>
   go_wp2_with fail
   go_ret
   exact⟨rfl,rfl⟩
 | some a=>
   go_wp2_with fail
   go_ret
   exact⟨rfl,rfl⟩
def StateAt (s x d:Nat) (t h:Nat) (es:List En) (n:Int) (bs:List UInt8):Thing:=fun w V=>∃ (A:Option Addr) (c:Nat) (q:List El),q.map El.e=es∧q.length≤c∧c≤maxLen∧Many [EnsT A q,Cell s 259 (StC t h (.slice A q.length c) x),LogAt x d n bs bs.length] w V
theorem state_framed (A:Option Addr) (q:List El) (s x d:Nat) (cs:Array Value) (n:Int) (bs:List UInt8) (k:Nat):AllFramed [EnsT A q,Cell s 259 cs,LogAt x d n bs k]:=((AllFramed.nil.cons (LogAt.framed _ _ _ _ _)).cons (Cell.framed _ _ _)).cons (EnsT.framed _ _)
theorem StateAt.framed (s x d:Nat) (t h:Nat) (es:List En) (n:Int) (bs:List UInt8):Framed (StateAt s x d t h es n bs):=fun w w' V ⟨A,c,q,h1,h2,h3,h4⟩ hk=>⟨A,c,q,h1,h2,h3,Many.framed _ (state_framed _ _ _ _ _ _ _ _ _) w w' V h4 hk⟩
theorem StateAt.cells {s x d:Nat} {t h:Nat} {es:List En} {n:Int} {bs:List UInt8} {w:World} {V:Nat→Prop} (hS:StateAt s x d t h es n bs w V):∃ (A:Option Addr) (c:Nat) (q:List El),q.map El.e=es∧q.length≤c∧c≤maxLen∧(∃ D,Ens w D A q)∧Blk w s 259 (StC t h (.slice A q.length c) x):=by
 obtain⟨A,c,q,h1,h2,h3,V1,V2,hE,⟨V3,V4,hB,_⟩,_⟩:=hS
 exact⟨A,c,q,h1,h2,h3,⟨V1,hE⟩,hB.2⟩
theorem sTerm_any (w:World) (s x d:Nat) (t h:Nat) (es:List En) (n:Int) (bs:List UInt8) (V:Nat→Prop) (hS:StateAt s x d t h es n bs w V):Calls Tryz.prog 83 #[.pointer (some ⟨s,0,none⟩)] w fun e w'=>e=.returned (.int .i64 (t:Int))∧w=w':=by
 obtain⟨A,c,q,_,_,_,_,hB⟩:=hS.cells
 unfold StC at hB
 have c0:=hB.cell 0
 go_enter Tryz.func83,Tryz.ntmps83
 go_wp2_with fail
 go_ret
 exact⟨rfl,rfl⟩
theorem sHad_any (w:World) (s x d:Nat) (t h:Nat) (es:List En) (n:Int) (bs:List UInt8) (V:Nat→Prop) (hS:StateAt s x d t h es n bs w V):Calls Tryz.prog 88 #[.pointer (some ⟨s,0,none⟩)] w fun e w'=>e=.returned (.int .i64 (h:Int))∧w=w':=by
 obtain⟨A,c,q,_,_,_,_,hB⟩:=hS.cells
 unfold StC at hB
 have c0:=hB.cell 1
 go_enter Tryz.func88,Tryz.ntmps88
 go_wp2_with fail
 go_ret
 exact⟨rfl,rfl⟩
theorem sLen_any (w:World) (s x d:Nat) (t h:Nat) (es:List En) (n:Int) (bs:List UInt8) (V:Nat→Prop) (hS:StateAt s x d t h es n bs w V):Calls Tryz.prog 171 #[.pointer (some ⟨s,0,none⟩)] w fun e w'=>e=.returned (.int .i64 (es.length:Int))∧w=w':=by
 obtain⟨A,c,q,hq,_,_,_,hB⟩:=hS.cells
 have hl:es.length=q.length:=by rw[←hq,List.length_map]
 unfold StC at hB
 have c0:=hB.cell 2
 rw[hl]
 clear hl
 go_enter Tryz.func171,Tryz.ntmps171
 go_wp2_with fail
 go_ret
 exact⟨rfl,rfl⟩
theorem sLog_any (w:World) (s x d:Nat) (t h:Nat) (es:List En) (n:Int) (bs:List UInt8) (V:Nat→Prop) (hS:StateAt s x d t h es n bs w V) (hn:es.length≤1048576):Calls Tryz.prog 89 #[.pointer (some ⟨s,0,none⟩)] w fun e w'=>∃ u,e=.returned u∧IsEns es w u w'∧(∃ A',u=.slice A' es.length es.length)∧Grow w w':=by
 obtain⟨A,c,q,hq,_,_,⟨D,hE⟩,hB⟩:=hS.cells
 have hl:es.length=q.length:=by rw[←hq,List.length_map]
 have hC:=Copies_any w D A c q hE (by omega)
 rw[hq,←hl] at hC
 unfold StC at hB
 rw[←hl] at hB
 have c0:=hB.cell 2
 clear hl
 go_enter Tryz.func89,Tryz.ntmps89
 go_wp2_with fail
 refine hC.mono ?_
 rintro e w1 ⟨u,rfl,hI,hu,hg⟩
 go_wp2_with fail
 go_ret
 exact⟨u,rfl,hI,hu,hg⟩
theorem sPromise_ok (w:World) (s x d:Nat) (t h TE:Nat) (es:List En) (n:Int) (bs:List UInt8) (htt:t<TE) (hte:TE≤9223372036854775807) (hha:h≤9223372036854775807) (hok:∀ e∈es,e.Ok) (hn:es.length≤1024) (hn0:0≤n∧n≤1099511627776) (hroom:Room bs (wordB TE h es)) :
 Turns Tryz.prog 84 #[.pointer (some ⟨s,0,none⟩),.int .i64 (TE:Int)] (fun e=>e=.returned (.bool true)) (StateAt s x d t h es n bs) (StateAt s x d TE h es (n+1) (bs++frame (wordB TE h es))) w:=by
 rintro V ⟨A,c,q,hq,hqc,hcm,hM⟩ hV
 subst hq
 rw[List.length_map] at hn
 have hFr:=state_framed A q s x d (StC t h (.slice A q.length c) x) n bs bs.length
 obtain⟨_,_,_,⟨_,_,hBk0,_⟩,_⟩:=id hM
 have hBk:Blk w s 259 #[.int .i64 (t:Int),.int .i64 (h:Int),.slice A q.length c,.pointer (some ⟨x,0,none⟩)]:=hBk0.2
 clear hBk0
 have dt:decide ((TE:Int) > (t:Int))=true:=decide_eq_true (by omega)
 have ht':(t:Int)<(TE:Int):=by omega
 have k166:∀ (vs:Array Value) (w:World),(callFunc 166 vs).run Tryz.prog w=.ok (.enter 166 vs) w:=fun vs w=>by go_simp
 go_enter Tryz.func84,Tryz.ntmps84
 go_wp2_with fail
 refine wp_region_flow 21 28 [] rfl rfl (by kernel_rfl) (by kernel_rfl) (by kernel_rfl) ?_ ?_
 ·intro x hx φ he
  cases hx
 intro ops' A' K' T hops hA' hK hT
 refine fl_mvN 5 (.int .i64 (TE:Int)) ?_
 refine fl_mvN 6 (.pointer (some ⟨s,0,none⟩)) ?_
 refine fl_op1G 7 (.tmp 6) (.pointer (some ⟨s,0,none⟩)) (.pointer (some ⟨s,0,none⟩)) ?_
 refine fl_op1G 8 (.tmp 7) (.pointer (some ⟨s,0,none⟩)) (.pointer (some ⟨s,0,none⟩)) ?_
 refine fl_op1G 9 (.tmp 8) (.pointer (some ⟨s,0,none⟩)) (.pointer (some ⟨s,0,none⟩)) ?_
 refine fl_op1N 10 (.tmp 9) (.pointer (some ⟨s,0,none⟩)) (.int .i64 (t:Int)) (fun ρ h1 kk w1 (hg:Grow _ w1) hb hf=>by have c:=(hBk.grow hg).cell 0;go_simp) ?_
 refine fl_op2N 11 (.tmp 5) (.tmp 10) (.int .i64 (TE:Int)) (.int .i64 (t:Int)) (.bool true) (fun ρ h1 h2 kk w1 (hg:Grow _ w1) hb hf=>by go_simp;try exact dt) ?_
 refine fl_mvN 12 (.bool true) ?_
 refine fl_mvW 13 (wif hops 7 true 12 true) (.pointer (some ⟨s,0,none⟩)) ?_
 refine fl_mvW 14 (wif hops 7 true 12 true) (.int .i64 (TE:Int)) ?_
 refine fl_mvW 15 (wif hops 7 true 12 true) (.pointer (some ⟨s,0,none⟩)) ?_
 refine fl_op1W 16 (wif hops 7 true 12 true) (.tmp 15) (.pointer (some ⟨s,0,none⟩)) (.pointer (some ⟨s,0,none⟩)) (fun ρ h1 kk w1 (hg:Grow _ w1) hb hf=>by go_simp) ?_
 refine fl_op1W 17 (wif hops 7 true 12 true) (.tmp 16) (.pointer (some ⟨s,0,none⟩)) (.pointer (some ⟨s,0,none⟩)) (fun ρ h1 kk w1 (hg:Grow _ w1) hb hf=>by go_simp) ?_
 refine fl_op1W 18 (wif hops 7 true 12 true) (.tmp 17) (.pointer (some ⟨s,0,none⟩)) (.pointer (some ⟨s,1,none⟩)) (fun ρ h1 kk w1 (hg:Grow _ w1) hb hf=>by go_simp) ?_
 refine fl_op1W 19 (wif hops 7 true 12 true) (.tmp 18) (.pointer (some ⟨s,1,none⟩)) (.int .i64 (h:Int)) (fun ρ h1 kk w1 (hg:Grow _ w1) hb hf=>by have c:=(hBk.grow hg).cell 1;go_simp) ?_
 refine fl_mvW 20 (wif hops 7 true 12 true) (.pointer (some ⟨s,0,none⟩)) ?_
 refine fl_op1W 21 (wif hops 7 true 12 true) (.tmp 20) (.pointer (some ⟨s,0,none⟩)) (.pointer (some ⟨s,0,none⟩)) (fun ρ h1 kk w1 (hg:Grow _ w1) hb hf=>by go_simp) ?_
 refine fl_op1W 22 (wif hops 7 true 12 true) (.tmp 21) (.pointer (some ⟨s,0,none⟩)) (.pointer (some ⟨s,0,none⟩)) (fun ρ h1 kk w1 (hg:Grow _ w1) hb hf=>by go_simp) ?_
 refine fl_op1W 23 (wif hops 7 true 12 true) (.tmp 22) (.pointer (some ⟨s,0,none⟩)) (.pointer (some ⟨s,2,none⟩)) (fun ρ h1 kk w1 (hg:Grow _ w1) hb hf=>by go_simp) ?_
 refine fl_op1W 24 (wif hops 7 true 12 true) (.tmp 23) (.pointer (some ⟨s,2,none⟩)) (.slice A q.length c) (fun ρ h1 kk w1 (hg:Grow _ w1) hb hf=>by have c:=(hBk.grow hg).cell 2;go_simp) ?_
 refine fl_op3 25 (by rfl) (by decide) (wanted_if hops 7 true (by rfl) 12 (by rfl) true (by rfl)) (by rw[hK.out];rfl) (by rfl) (.tmp 14) (.tmp 19) (.tmp 24) (.int .i64 (TE:Int)) (.int .i64 (h:Int)) (.slice A q.length c) (by rfl) (by rfl) (by rfl) (.agg #[.int .i64 (TE:Int),.int .i64 (h:Int),.slice A q.length c]) (fun ρ h1 h2 h3 kk w1 (hg:Grow _ w1) hb hf=>by go_simp) ?_
 refine fl_end (fun _ _ w1 (hg:Grow _ w1) _ hfacts=>hT _ _ ?_)
 clear hops hA' hK hT
 simp only[putsL,Act.put,List.setIfInBounds_toArray,List.set_cons_zero,List.set_cons_succ,List.drop_succ_cons,List.drop_zero]
 obtain⟨V1,V2,hE,hM1,hc1,hc2,hdis⟩:=Many.framed _ hFr w w1 V hM fun b hb=>hg.block b (hV b hb)
 have hs1:=hg.size
 have hk:=keep_ok w1 s x d t h (.slice A q.length c) n bs TE h V1 A c q hte hha hE (fun y hy=>hok _ (List.mem_map.2 ⟨y,hy,rfl⟩)) hn hn0 hroom V2 hM1 (fun b hb=>by have:=hV b (hc2 b hb);omega)
 go_wp2_with fail
 refine hk.mono ?_
 rintro e w2 ⟨rfl,hM2,hj2⟩
 go_wp2_with fail
 go_ret
 refine⟨rfl,⟨A,c,q,rfl,hqc,hcm,V1,Ext V2 w1 w2,hE.just hj2 (fun b hb hv=>hdis b hb hv),hM2,fun b hb => .inl (hc1 b hb),fun b hb=>?_,fun b hb hv=>?_⟩,(Just.of_grow hg).trans (hj2.imp hc2)⟩
 ·rcases hb with hb|hb
  ·exact .inl (hc2 b hb)
  ·exact .inr ⟨by have:=hb.1;omega,hb.2⟩
 ·rcases hv with hv|hv
  ·exact hdis b hb hv
  ·have:=hV b (hc1 b hb);have:=hv.1;omega
end Go.Proofs.YtmijcbfgfkeodaaGreatDoor
end
