/- Bk2, Qbat, Qsome, Qque. -/
import Derived.Test.YtmijcbfgfkeodaaGreatDoorIz21
set_option linter.all false
set_option maxRecDepth 100000
open Go.Value renaming int → ae,slice → ai
open Go.IntKind renaming i64 → af,u64 → ah
open Go.Proofs.Tryz renaming prog → au
open List renaming setIfInBounds_toArray → aw,drop_succ_cons → ax,set_cons_zero → ay,set_cons_succ → az,drop_zero → aB,length_append → aD,not_mem_nil → aE,mem_cons → aF,take_succ_eq_append_getElem → aI,take_of_length_le → aN,getElem_mem → aO,length_map → aP,flatMap_cons → aU,map_append → aX,flatMap_append → bd,append_nil → bf,mem_of_mem_take → bp,flatMap_nil → bB
open Nat renaming le_refl → aC,le_trans → aH,lt_or_ge → bn
section
namespace Go.Proofs.YtmijcbfgfkeodaaGreatDoor
open Go.RowKit Go.Hop V
def fT (size n:Nat) (xs:List Value) (u:Value) (w:World):Prop:=∃ A,u=.slice A n n∧In w (fun _=>True) size A n xs
theorem fj (size n:Nat) (xs:List Value):dv (fT size n xs):=fun u w w' ⟨A,e,h⟩ hg=>⟨A,e,h.grow hg⟩
theorem iK {w:World} {x:Nat} {t:TypeId} {cs:Array Value} (h:ct w x t cs) {size n:Nat} (hn:cs.toList.length=n*size):fT size n cs.toList (.slice (some ⟨x,0,none⟩) n n) w:=⟨_,rfl,(h.fw hn).mono fun _ _=>trivial⟩
theorem wZ {w:World} {o:Oper} {ρ:Operand→Value} {x y z:Operand} {a b c:Int} (ho:o.op=.buildSlice 52 3 #[(0,x),(1,y),(2,z)]) (hx:ρ x=ae af a) (hy:ρ y=ae af b) (hz:ρ z=ae af c) :
 cz au (fun u w'=>Grow w w'∧fT 1 3 [ae af a,ae af b,ae af c] u w') ((execOp ρ o).run au w):=by
 obtain⟨dst,op,ty,pos,after,guard⟩:=o
 simp only at ho
 subst ho
 exact cF (u := .slice (some ⟨w.heap.size,0,none⟩) 3 3) (w:=w.alloc (.cells #[ae af a,ae af b,ae af c] 2)) (by go_simp) ⟨(Below.refl _ w).alloc (aC _) _,iK (ct.made w _ _) rfl⟩
theorem pw {w:World} {o:Oper} {ρ:Operand→Value} {x:Operand} {s:ByteArray} {n:Int} (ho:o.op=.buildSlice 30 1 #[(0,x)]) (hx:ρ x=.agg #[.string s,ae ah n]) :
 cz au (fun u w'=>Grow w w'∧fT 2 1 [.string s,ae ah n] u w') ((execOp ρ o).run au w):=by
 obtain⟨dst,op,ty,pos,after,guard⟩:=o
 simp only at ho
 subst ho
 exact cF (u := .slice (some ⟨w.heap.size,0,none⟩) 1 1) (w:=w.alloc (.cells #[.string s,ae ah n] 29)) (by go_simp) ⟨(Below.refl _ w).alloc (aC _) _,iK (ct.made w _ _) rfl⟩
theorem zG (w:World) (k n:Nat) (ns:List Nat) (u:Value) (h:fT 1 n (ns.map fun (x:Nat) => ae af (x:Int)) u w) (hk:k<18446744073709551616) (hn:n≤8) (hs:∀ x∈ns,x≤9223372036854775807) :
 Calls au 150 #[ae ah (k:Int),u] w fun e w'=>∃ v,e=.returned v∧Grow w w'∧bZ (eI k ns) v w':=by
 obtain⟨A,rfl,h⟩:=h
 exact jT w k A n n ns _ h hk hn hs
theorem Fh (w:World) (u v:Value) (l:List UInt8) (n:Nat) (ds:List Dl) (hu:bZ l u w) (hl:l.length≤1048576) (hd:fT 2 n (eE ds) v w) (hn:n≤1048576) (hs:∀ d∈ds,Small d) :
 Calls au 154 #[u,v] w fun e w'=>∃ v,e=.returned v∧Grow w w'∧bZ (l++lX ds) v w':=by
 obtain⟨A,rfl,h⟩:=hd
 exact ni w u l _ A n n ds hu hl h hn hs
theorem iL (k:Nat) (ns:List Nat) (hk:k<18446744073709551616) (h:∀ x∈ns,x<18446744073709551616):(eI k ns).length≤10+ns.length*10:=by
 have:=cZ hk
 have:=pv ns h
 unfold eI
 rw[aD]
 omega
theorem uf (w:World) (s:ByteArray) (x:Nat) (hs:Small (s,x)):Calls au 72 #[.agg #[.string s,ae ah (x:Int)]] w fun e w'=>∃ v,e=.returned v∧Grow w w'∧bZ (eI 2 []++lX [(s,x)]) v w':=by
 have I9:∀ (vs:Array Value) (w:World),(callFunc 150 vs).run au w=.ok (.enter 150 vs) w:=fun vs w=>by go_simp
 have Ia:∀ (vs:Array Value) (w:World),(callFunc 154 vs).run au w=.ok (.enter 154 vs) w:=fun vs w=>by go_simp
 have hga:=bN w (.cells #[.string s,ae ah (x:Int)] 29)
 have du:=ct.made w 29 #[.string s,ae ah (x:Int)]
 obtain⟨y,HY⟩:∃ y:Nat,Hid (y=w.heap.size):=⟨_,rfl⟩
 obtain⟨wa,dq⟩:∃ wa:World,Hid (wa=w.alloc (.cells #[.string s,ae ah (x:Int)] 29)):=⟨_,rfl⟩
 rw[←dq.out] at hga du
 rw[←HY.out] at du
 have hl:=iL 2 [] ak (by simp)
 have hsm:∀ d∈[(s,x)],Small d:=fun d hd=>by rw[List.mem_singleton.1 hd];exact hs
 go_enter Tryz.func72,Tryz.ntmps72
 go_wp2_with fail
 rw[←dq.out,←HY.out]
 refine bL 5 7 [(0,.inr (fun _=>bZ (eI 2 []))),(2,.inr (fun _=>fT 2 1 [.string s,ae ah (x:Int)])),(3,.inr (fun _=>bZ (eI 2 []++lX [(s,x)])))] rfl rfl am am am ?_ ?_
 ·intro x hx φ he
  simp only[aF,aE,or_false] at hx
  rcases hx with rfl|rfl|rfl<;>cases he
  all_goals first|exact ca (cn _)|exact ca (fj _ _ _)
 intro ops' A' K' T hops hA' hK hT
 refine cH 3 aj ak (bO aj) (fun _=>bZ (eI 2 [])) (by rw[hK.out];rfl) 150 _ _ aj [ae ah 2,ai none 0 0] aj I9 (fun kk w1 (hg:Grow _ w1) hb hf=>cr (φ:=fun _=>bZ (eI 2 [])) aj (by exact jT w1 2 none 0 0 [] (fun _=>True) In.nil ak ak (by simp))) (fun v3=>?_)
 refine bI 4 (.tmp 1) (((y:Nat):Value)) (.agg #[.string s,ae ah (x:Int)]) (fun ρ h1 kk w1 (hg:Grow _ w1) hb hf=>by have c0:=(du.grow hg).cell 0;have c1:=(du.grow hg).cell 1;go_simp) ?_
 refine fE 5 aj ak (bO aj) (fun _=>fT 2 1 [.string s,ae ah (x:Int)]) (by rw[hK.out];rfl) (.tmp 4) (.agg #[.string s,ae ah (x:Int)]) aj (fun ρ h1 kk w1 (hg:Grow _ w1) hb hf=>by refine cA (φ:=fun _=>fT 2 1 [.string s,ae ah (x:Int)]) aj ?_;exact pw rfl h1) (fun v5=>?_)
 refine cH 6 aj ak (bO aj) (fun _=>bZ (eI 2 []++lX [(s,x)])) (by rw[hK.out];rfl) 154 _ _ aj [v3,v5] aj Ia (fun kk w1 (hg:Grow _ w1) hb hf=>cr (φ:=fun _=>bZ (eI 2 []++lX [(s,x)])) aj (by exact Fh w1 v3 v5 _ 1 [(s,x)] (cy (vk hf) (by rw[hA'.out];kernel_rfl)) (by simp at hl;omega) (cy hf (by rw[hA'.out];kernel_rfl)) ak hsm)) (fun v6=>?_)
 refine bP 2 (v6) ?_
 refine ce (fun _ _ w1 (hg:Grow _ w1) _ bR=>hT _ _ ?_)
 clear hops hA' hK hT
 simp only[cj,Act.put,aw,ay,az,ax,aB]
 have hE:=bR.1
 clear bR
 go_wp2_with fail
 go_ret
 exact⟨_,rfl,hga.trans hg,hE⟩
theorem w_ (w:World) (k sq:Nat) (A:Option Addr) (n c:Nat) (ds:List Dl) (D:Nat→Prop) (hd:fV w D A n ds) (hn:n≤8) (hk:k≤9223372036854775807) (im:sq≤9223372036854775807) (hs:∀ d∈ds,Small d):Calls au 160 #[ae af (k:Int),.agg #[ae af (sq:Int),.slice A n c]] w fun e w'=>∃ v,e=.returned v∧Grow w w'∧bZ (eI 3 [k,sq,n]++lX ds) v w':=by
 have I9:∀ (vs:Array Value) (w:World),(callFunc 150 vs).run au w=.ok (.enter 150 vs) w:=fun vs w=>by go_simp
 have Ia:∀ (vs:Array Value) (w:World),(callFunc 154 vs).run au w=.ok (.enter 154 vs) w:=fun vs w=>by go_simp
 have hga:=bN w (.cells #[ae af (sq:Int),.slice A n c] 159)
 have du:=ct.made w 159 #[ae af (sq:Int),.slice A n c]
 obtain⟨y,HY⟩:∃ y:Nat,Hid (y=w.heap.size):=⟨_,rfl⟩
 obtain⟨wa,dq⟩:∃ wa:World,Hid (wa=w.alloc (.cells #[ae af (sq:Int),.slice A n c] 159)):=⟨_,rfl⟩
 rw[←dq.out] at hga du
 rw[←HY.out] at du
 have hda:=In.grow hd hga
 have hl:=iL 3 [k,sq,n] ak (by intro x hx;simp only[aF,aE,or_false] at hx;omega)
 have hl2:(eI 3 [k,sq,n]).length≤1048576:=by simp at hl;omega
 clear hl
 go_enter Tryz.func160,Tryz.ntmps160
 go_wp2_with fail
 rw[←dq.out,←HY.out]
 refine bL 12 16 [(6,.inr (fun _=>fT 1 3 ([k,sq,n].map fun (x:Nat) => ae af (x:Int)))),(7,.inr (fun _=>bZ (eI 3 [k,sq,n]))),(10,.inr (fun _=>bZ (eI 3 [k,sq,n]++lX ds)))] rfl rfl am am am ?_ ?_
 ·intro x hx φ he
  simp only[aF,aE,or_false] at hx
  rcases hx with rfl|rfl|rfl<;>cases he
  all_goals first|exact ca (cn _)|exact ca (fj _ _ _)
 intro ops' A' K' T hops hA' hK hT
 refine bP 5 (ae af (k:Int)) ?_
 refine bQ 6 (.tmp 3) (((y:Nat):Value)) (((y:Nat):Value)) ?_
 refine bI 7 (.tmp 6) (((y:Nat):Value)) (ae af (sq:Int)) (fun ρ h1 kk w1 (hg:Grow _ w1) hb hf=>by have c0:=(du.grow hg).cell 0;go_simp) ?_
 refine bQ 8 (.tmp 3) (((y:Nat):Value)) (.pointer (some ⟨y,1,none⟩)) ?_
 refine bI 9 (.tmp 8) (.pointer (some ⟨y,1,none⟩)) (.slice A n c) (fun ρ h1 kk w1 (hg:Grow _ w1) hb hf=>by have c1:=(du.grow hg).cell 1;go_simp) ?_
 refine bQ 10 (.tmp 9) (.slice A n c) (ae af (n:Int)) ?_
 refine gH 11 aj ak (bO aj) (fun _=>fT 1 3 ([k,sq,n].map fun (x:Nat) => ae af (x:Int))) (by rw[hK.out];rfl) (fun kk w1 (hg:Grow _ w1) hb hf=>by refine cA (φ:=fun _=>fT 1 3 ([k,sq,n].map fun (x:Nat) => ae af (x:Int))) aj ?_;exact wZ rfl rfl rfl rfl) (fun v11=>?_)
 refine cH 12 aj ak (bO aj) (fun _=>bZ (eI 3 [k,sq,n])) (by rw[hK.out];rfl) 150 _ _ aj [ae ah 3,v11] aj I9 (fun kk w1 (hg:Grow _ w1) hb hf=>cr (φ:=fun _=>bZ (eI 3 [k,sq,n])) aj (by exact zG w1 3 3 [k,sq,n] v11 (cy hf (by rw[hA'.out];kernel_rfl)) ak ak (by intro x hx;simp only[aF,aE,or_false] at hx;omega))) (fun v12=>?_)
 refine bQ 13 (.tmp 3) (((y:Nat):Value)) (.pointer (some ⟨y,1,none⟩)) ?_
 refine bI 14 (.tmp 13) (.pointer (some ⟨y,1,none⟩)) (.slice A n c) (fun ρ h1 kk w1 (hg:Grow _ w1) hb hf=>by have c1:=(du.grow hg).cell 1;go_simp) ?_
 refine cH 15 aj ak (bO aj) (fun _=>bZ (eI 3 [k,sq,n]++lX ds)) (by rw[hK.out];rfl) 154 _ _ aj [v12,.slice A n c] aj Ia (fun kk w1 (hg:Grow _ w1) hb hf=>cr (φ:=fun _=>bZ (eI 3 [k,sq,n]++lX ds)) aj (by exact ni w1 v12 _ D A n c ds (cy hf (by rw[hA'.out];kernel_rfl)) hl2 (In.grow hda hg) al hs)) (fun v15=>?_)
 refine bP 4 (v15) ?_
 refine ce (fun _ _ w1 (hg:Grow _ w1) _ bR=>hT _ _ ?_)
 clear hops hA' hK hT
 simp only[cj,Act.put,aw,ay,az,ax,aB]
 have hE:=bR.1
 clear bR
 go_wp2_with fail
 go_ret
 exact⟨_,rfl,hga.trans hg,hE⟩
end Go.Proofs.YtmijcbfgfkeodaaGreatDoor
end
section
namespace Go.Proofs.YtmijcbfgfkeodaaGreatDoor.Q
open Go.RowKit Go.Hop
structure fk where
 seq:Int
 A:Option Addr
 m:Nat
 c:Nat
 ds:List Dl
def fk.cells (b:fk):List Value:=[ae af b.seq,.slice b.A b.m b.c]
def fk.abs (b:fk):Int×List Dl:=(b.seq,b.ds)
theorem jU (b:fk):b.cells.length=2:=rfl
theorem su (b:fk):∀ u∈b.cells,u.oneCell'=true:=by
 intro u hu
 simp only[fk.cells,aF,aE,or_false] at hu
 rcases hu with rfl|rfl<;>rfl
theorem D1 (q:List fk):∀ u∈q.flatMap fk.cells,u.oneCell'=true:=by
 intro u hu
 obtain⟨b,_,hb⟩:=List.mem_flatMap.1 hu
 exact su b u hb
theorem D3 (q:List fk):(q.flatMap fk.cells).length=q.length*2:=fA fk.cells 2 jU q
structure fe (w:World) (V:Nat→Prop) (b:fk):Prop where
 ds:fV w V b.A b.m b.ds
 le:b.m≤b.c
 max:b.c≤maxLen
 small:b.m≤8
theorem fe.mono {w:World} {V V':Nat→Prop} {b:fk} (h:fe w V b) (hV:∀ b,V b→V' b):fe w V' b:=⟨In.mono h.ds hV,h.le,h.max,h.small⟩
theorem fe.grow {w w':World} {V:Nat→Prop} {b:fk} (h:fe w V b) (hg:Grow w w'):fe w' V b:=⟨In.grow h.ds hg,h.le,h.max,h.small⟩
theorem fe.just {w w':World} {V U:Nat→Prop} {b:fk} (h:fe w V b) (hj:Just U w w') (hd:∀ b,V b→¬ U b):fe w' V b:=⟨In.just h.ds hj hd,h.le,h.max,h.small⟩
theorem x4:(Tryz.prog.info? 159).map (fun i=>(i.zero,i.size,i.bytes))=some (some (.agg #[ae af 0,ai none 0 0]),2,32):=by kernel_rfl
theorem px:Elem au 156 159 2 32 (.agg #[ae af 0,ai none 0 0]):=⟨Tryz.underlying156,info_parts x4,rfl,by decide,by decide⟩
theorem mB (w:World) (V:Nat→Prop) (b:fk) (h:fe w V b) :
 Calls au 226 #[.agg #[ae af b.seq,.slice b.A b.m b.c]] w fun e w'=>∃ A',e=.returned (.agg #[ae af b.seq,.slice A' b.m b.m])∧fe w' (New w w') ⟨b.seq,A',b.m,b.m,b.ds⟩∧Grow w w':=by
 obtain⟨sq,A,m,c,ds⟩:=b
 obtain⟨hd,hle,hmx,hsm⟩:=h
 dsimp only at hd hle hmx hsm ⊢
 have hg0:Grow w ((w.alloc (.cells #[ae af sq,.slice A m c] 159)).alloc (.cells #[ae af 0,ai none 0 0] 159)):=((Below.refl _ _).alloc (aC _) _).alloc (by simp) _
 have hB0:=(ct.made w 159 #[ae af sq,.slice A m c]).alloc (.cells #[ae af 0,ai none 0 0] 159)
 have hB1:=ct.made (w.alloc (.cells #[ae af sq,.slice A m c] 159)) 159 #[ae af 0,ai none 0 0]
 obtain⟨x,HX⟩:∃ x:Nat,Hid (x=w.heap.size):=⟨_,rfl⟩
 have hx1:(w.alloc (.cells #[ae af sq,.slice A m c] 159)).heap.size=x+1:=by rw[HX.out];simp
 rw[hx1] at hB1
 rw[←HX.out] at hB0
 obtain⟨wa,HA⟩:∃ wa:World,Hid (wa=(w.alloc (.cells #[ae af sq,.slice A m c] 159)).alloc (.cells #[ae af 0,ai none 0 0] 159)):=⟨_,rfl⟩
 rw[←HA.out] at hB0 hB1 hg0
 have c1:=hB0.cell 1
 have hsz:wa.heap.size=x+2:=by rw[HA.out,HX.out];simp
 go_enter Tryz.func226,Tryz.ntmps226
 go_wp2_with fail
 rw[←HA.out,←HX.out]
 refine (fF wa V A m c ds (In.grow hd hg0) al).mono ?_
 rintro e w1 ⟨A1,c1',rfl,hd1,hn1,hm1,hg1⟩
 have hC0:=hB0.grow hg1
 have Es:=hB1.grow hg1
 have hxs:=Es.lt
 have hk0:∀ u,(w1.setCell ⟨x,1,none⟩ u).cell? ⟨x,0,none⟩=some (ae af sq):=fun u=>(hC0.put 1 u).cell 0
 have hk1:∀ u,(w1.setCell ⟨x,1,none⟩ u).cell? ⟨x,1,none⟩=some u:=fun u=>(hC0.put 1 u).cell 1
 have f1:=hC0.frozen 1
 have c10:=hC0.cell 1
 have hD:=(Es.far (p:=⟨x,1,none⟩) (show x+1≠x by omega) (.slice A1 m m))
 have d0:=hD.cell 0
 have d1:=hD.cell 1
 have g0:=hD.frozen 0
 have g1:=hD.frozen 1
 go_wp2_with (go_at_call 137;refine (iC _ A1 m c1' hn1).mono ?_;rintro e w2 ⟨rfl,rfl⟩)
 have hE:=(hD.put 0 (ae af sq)).put 1 (.slice A1 m m)
 have e0:=hE.cell 0
 have e1:=hE.cell 1
 have hj:Just (fun b=>b=x∨b=x+1) w1 (((w1.setCell ⟨x,1,none⟩ (.slice A1 m m)).setCell ⟨x+1,0,none⟩ (ae af sq)).setCell ⟨x+1,1,none⟩ (.slice A1 m m)):=
  (((Just.bJ (Grow.refl w1)).put (V:=fun b=>b=x∨b=x+1) (.inl rfl) 1 _).put (.inr rfl) 0 _).put (.inr rfl) 1 _
 have hgw:Grow w (((w1.setCell ⟨x,1,none⟩ (.slice A1 m m)).setCell ⟨x+1,0,none⟩ (ae af sq)).setCell ⟨x+1,1,none⟩ (.slice A1 m m)):=
  Below.trans (hg0.trans hg1) (hj.below (B:=w.heap.size) (fun b hb=>by have:=HX.out;omega) (hg0.trans hg1).size)
 refine bodyPost_ret (v := .agg #[ae af sq,.slice A1 m m]) (by simp[results,Tryz.results226,go_sem,e0,e1]) rfl ⟨A1,rfl,⟨?_,aC _,by dsimp only;omega,hsm⟩,hgw⟩
 refine In.mono (V:=New wa w1) (In.just hd1 hj fun b hb=>by have:=hb.1;omega) fun b hb=>⟨by have:=hb.1;have:=hg0.size;omega,by have:=hb.2;simpa [World.setCell] using this⟩
theorem zH (w:World) (A:Option Addr) (n c:Nat) (hn:n≤c) :
 Calls au 227 #[.slice A n c] w fun e w'=>e=.returned (.slice A n n)∧w=w':=by
 go_enter Tryz.func227,Tryz.ntmps227
 go_wp2_with fail
 go_ret
 exact⟨rfl,rfl⟩
structure km (w:World) (V D:Nat→Prop) (A:Option Addr) (n:Nat) (q:List fk):Prop where
 row:In w V 2 A n (q.flatMap fk.cells)
 all:∀ b∈q,fe w D b
theorem km.len {w:World} {V D:Nat→Prop} {A:Option Addr} {n:Nat} {q:List fk} (h:km w V D A n q):q.length=n:=by
 have:=h.row.1;rw[D3] at this;omega
theorem km.grow {w w':World} {V D:Nat→Prop} {A:Option Addr} {n:Nat} {q:List fk} (h:km w V D A n q) (hg:Grow w w'):km w' V D A n q:=⟨h.row.grow hg,fun b hb=>(h.all b hb).grow hg⟩
theorem km.mono {w:World} {V D V' D':Nat→Prop} {A:Option Addr} {n:Nat} {q:List fk} (h:km w V D A n q) (hV:∀ b,V b→V' b) (hD:∀ b,D b→D' b):km w V' D' A n q:=⟨h.row.mono hV,fun b hb=>(h.all b hb).mono hD⟩
theorem km.take {w:World} {V D:Nat→Prop} {A:Option Addr} {n k:Nat} {q:List fk} (h:km w V D A n q) (hk:k≤n):km w V D A k (q.take k):=by
 refine⟨?_,fun b hb=>h.all b (bp hb)⟩
 have:=h.row.take hk
 rwa [kT fk.cells 2 jU q k] at this
theorem py (w:World) (V D:Nat→Prop) (A:Option Addr) (n c:Nat) (q:List fk) (h:km w V D A n q) (hn:n≤1024) (hnc:n≤c) :
 Calls au 162 #[.slice A n c] w fun e w'=>∃ A' q',e=.returned (.slice A' n n)∧km w' (New w w') (New w w') A' n q'∧q'.map fk.abs=q.map fk.abs∧Grow w w':=by
 have gS:=h.len
 go_enter Tryz.func162,Tryz.ntmps162
 go_wp2_with fail
 go_loopw [3,8] (fun s i wr=>∃ (k:Nat) (q':List fk) (R D':Nat→Prop),k≤n∧i=ae af k∧Own wr R 159 2 s k (q'.flatMap fk.cells)∧(∀ b∈q',fe wr D' b)∧q'.map fk.abs=(q.take k).map fk.abs∧(∀ b,R b→New w wr b∧¬ D' b)∧(∀ b,D' b→New w wr b)∧Grow w wr) (fun _ i _=>n-(intOf i).toNat)
 case atStart=>exact⟨0,[],fun _=>False,fun _=>False,by omega,rfl,Own.nil,by simp,by simp,fun _ h=>h.elim,fun _ h=>h.elim,Grow.refl _⟩
 case round=>
  obtain⟨k,q',R,D',hkn,rfl,hO,hin,habs,hR,hD,hg⟩:=hrel
  obtain⟨A1,c1,rfl,hI1,Cy,hm1⟩:=hO.fw
  by_cases hk:k<n
  ·obtain⟨ad,hkq,rfl,hV,hB,e0,e1⟩:=(h.row.grow hg).iS al jU hk
   have gy:=(h.all q[k] (aO hkq)).grow hg
   have hsn:q.take (k+1)=q.take k++[q[k]]:=aI hkq
   have e0:=e0 _ rfl
   have e1:=e1 0 _ rfl
   have HS:=Lib.hid hsn
   clear hsn
   generalize q[k]=b at gy e0 e1 HS
   obtain⟨sq,Ab,mb,cb,ds⟩:=b
   dsimp only[fk.cells] at e0 e1
   have hga:Grow wr (wr.alloc (.cells #[ae af sq,.slice Ab mb cb] 159)):=(Below.refl wr.heap.size wr).alloc (aC _) _
   go_wp2_with fail
   refine (mB _ D ⟨sq,Ab,mb,cb,ds⟩ (gy.grow hga)).mono ?_
   rintro e w1 ⟨A2,rfl,hb2,hg1⟩
   have hs1:=hg1.size
   simp only[di] at hs1
   have hgB:=(Below.refl w1.heap.size w1).alloc (aC _) (.cells #[ae af sq,.slice A2 mb mb] 159)
   go_wp2_with (at_builtin;refine stay ?_)
   refine bV ?_
   have hsr:=hg.size
   have iF:∀ b,R b→b<wr.heap.size:=fun b hb=>(hR b hb).1.2
   refine cR (V:=R) px _ rfl (.tmp 12) (.tmp 15) rfl (.slice A1 k c1) k (q'.flatMap fk.cells) rfl (((hO.grow iF (hga.trans hg1)).grow (fun b hb=>by have:=iF b hb;omega) hgB)) (w1.heap.size+1) (some ⟨w1.heap.size,0,none⟩) 1 1 (fk.cells ⟨sq,A2,mb,mb,ds⟩) rfl (df w1 _ 159 _ rfl _ rfl) (su _) al ?_
   intro v2 w2 hO2 hj2
   have hs2:=hj2.size
   simp only[di] at hs2
   have hgj:Below w.heap.size w1 w2:=Below.trans (hgB.mono al) (hj2.below (B:=w.heap.size) (fun b hb=>(hR b hb).1.1) (by simp;omega))
   have hg2:Grow w w2:=Below.trans (hg.trans (hga.trans hg1)) hgj
   have hD2:∀ b:fk,fe w1 D' b→fe w2 D' b:=fun b hb=>(hb.grow hgB).just hj2 fun x hx hr=>(hR x hr).2 hx
   have BR:∀ b:fk,fe w1 (New (wr.alloc (.cells #[ae af sq,.slice Ab mb cb] 159)) w1) b→fe w2 (New (wr.alloc (.cells #[ae af sq,.slice Ab mb cb] 159)) w1) b:=fun b hb=>(hb.grow hgB).just hj2 fun x hx hr=>by have:=hx.1;have:=iF x hr;simp at *;omega
   go_wp2_with fail
   go_roundw
   case rel=>
    refine⟨k+1,q'++[⟨sq,A2,mb,mb,ds⟩],Ext R (w1.alloc (.cells #[ae af sq,.slice A2 mb mb] 159)) w2,fun b=>D' b∨New (wr.alloc (.cells #[ae af sq,.slice Ab mb cb] 159)) w1 b,by omega,by go_num,?_,fun b hb=>?_,?_,fun b hb=>?_,fun b hb=>?_,hg2⟩
    ·rw[bd,aU,bB,bf];exact hO2
    ·rcases List.mem_append.1 hb with hb|hb
     ·exact (hD2 b ((hin b hb).grow (hga.trans hg1))).mono fun _ => .inl
     ·rw[List.mem_singleton.1 hb];exact (BR _ hb2).mono fun _ => .inr
    ·rw[aX,habs,HS.out,aX];rfl
    ·rcases hb with hb|⟨h1,h2⟩
     ·refine⟨⟨(hR b hb).1.1,by have:=iF b hb;omega⟩,fun hd=>?_⟩
      rcases hd with hd|hd
      ·exact (hR b hb).2 hd
      ·have:=hd.1;have:=iF b hb;simp at *;omega
     ·simp only[di] at h1
      refine⟨⟨by omega,h2⟩,fun hd=>?_⟩
      rcases hd with hd|hd
      ·have:=(hD b hd).2;omega
      ·have:=hd.2;omega
    ·rcases hb with hb|hb
     ·have:=hD b hb;exact⟨this.1,by have:=this.2;omega⟩
     ·have h1:=hb.1;have h2:=hb.2;simp only[di] at h1;exact⟨by omega,by omega⟩
   case measure=>simp[intOf];omega
  ·obtain rfl:k=n:=by omega
   go_wp2_with (go_at_call 227;refine (zH _ A1 k c1 Cy).mono ?_;rintro e w2 ⟨rfl,rfl⟩)
   go_ret
   refine⟨A1,q',rfl,⟨hI1.mono fun b hb=>(hR b hb).1,fun b hb=>(hin b hb).mono hD⟩,?_,hg⟩
   rw[habs,aN al]
abbrev Ab:=Int×List Dl
def ck (g:Nat) (l:List Ab) (last:Int):cg:=fun w V=>
 V g∧∃ (v:Value) (q:List fk) (R D:Nat→Prop),q.map fk.abs=l∧q.length≤16∧ct w g 253 #[v,ae af last]∧Row w R 159 2 v q.length (q.flatMap fk.cells)∧(∀ b∈q,fe w D b)∧(∀ b,R b→V b∧b≠g∧¬ D b)∧(∀ b,D b→V b∧b≠g)
theorem fe.keep {w w':World} {V:Nat→Prop} {b:fk} (h:fe w V b) (hk:∀ b,V b→b<w.heap.size→w'.heap[b]?=w.heap[b]?):fe w' V b:=⟨In.keep h.ds hk,h.le,h.max,h.small⟩
theorem ck.framed (g:Nat) (l:List Ab) (last:Int):Framed (ck g l last):=fun w w' V h hk=>by
 obtain⟨h1,v,q,R,D,h2,h3,h4,h5,h6,h7,h8⟩:=h
 exact⟨h1,v,q,R,D,h2,h3,(hk g h1).trans h4,h5.keep fun b hb _=>hk b (h7 b hb).1,fun b hb=>(h6 b hb).keep fun x hx _=>hk x (h8 x hx).1,h7,h8⟩
theorem ck.wide {g:Nat} {l:List Ab} {last:Int} {w:World} {V V':Nat→Prop} (h:ck g l last w V) (hV:∀ b,V b→V' b):ck g l last w V':=by
 obtain⟨h1,v,q,R,D,h2,h3,h4,h5,h6,h7,h8⟩:=h
 exact⟨hV g h1,v,q,R,D,h2,h3,h4,h5,h6,fun b hb=>⟨hV b (h7 b hb).1,(h7 b hb).2⟩,fun b hb=>⟨hV b (h8 b hb).1,(h8 b hb).2⟩⟩
theorem ck.Ib {g:Nat} {l:List Ab} {last:Int} {w:World} {V:Nat→Prop} (h:ck g l last w V) :
 ∃ A c q,Hid (q.map fk.abs=l)∧l.length≤16∧ct w g 253 #[.slice A l.length c,ae af last]∧km w V V A l.length q∧l.length≤c∧c≤maxLen:=by
 obtain⟨h1,v,q,R,D,rfl,h3,h4,h5,h6,h7,h8⟩:=h
 obtain⟨A,c,rfl,hI,hn,hm⟩:=h5.fw
 have e:(q.map fk.abs).length=q.length:=aP ..
 rw[e]
 exact⟨A,c,q,Lib.hid rfl,h3,h4,⟨hI.mono fun b hb=>(h7 b hb).1,fun b hb=>(h6 b hb).mono fun x hx=>(h8 x hx).1⟩,hn,hm⟩
theorem j3 (w:World) :
 Calls au 147 #[] w fun e w'=>e=.returned (.pointer (some ⟨w.heap.size,0,none⟩))∧ck w.heap.size [] 0 w' (New w w')∧Grow w w':=by
 go_enter Tryz.func147,Tryz.ntmps147
 go_wp2_with fail
 go_ret
 exact⟨rfl,⟨⟨aC _,by simp⟩,_,[],fun _=>False,fun _=>False,rfl,by simp,ct.made w _ _,Row.nil,by simp,fun _ h=>h.elim,fun _ h=>h.elim⟩,(Below.refl w.heap.size w).alloc (aC _) _⟩
theorem Fi (w:World) (g:Nat) (l:List Ab) (last:Int) (V:Nat→Prop) (hQ:ck g l last w V) :
 Calls au 159 #[((g:Nat):Value)] w fun e w'=>e=.returned (ae af (l.length:Int))∧w=w':=by
 obtain⟨A,c,q,HQ,h3,hB,hI,hn,hm⟩:=hQ.Ib
 have c0:=hB.cell 0
 go_enter Tryz.func159,Tryz.ntmps159
 go_wp2_with fail
 go_ret
 exact⟨rfl,rfl⟩
theorem sf (w:World) (g:Nat) (l:List Ab) (last:Int) (V:Nat→Prop) (hQ:ck g l last w V) :
 Calls au 78 #[((g:Nat):Value)] w fun e w'=>∃ A' q',e=.returned (.slice A' l.length l.length)∧km w' (New w w') (New w w') A' l.length q'∧q'.map fk.abs=l∧Grow w w':=by
 obtain⟨A,c,q,HQ,h3,hB,hI,hn,hm⟩:=hQ.Ib
 have c0:=hB.cell 0
 go_enter Tryz.func78,Tryz.ntmps78
 go_wp2_with (go_at_call 162;refine (py _ V V A _ c q hI al hn).mono ?_;rintro e w1 ⟨A1,q1,rfl,hI1,he1,hg1⟩)
 go_ret
 exact⟨A1,q1,rfl,hI1,he1.trans HQ.out,hg1⟩
theorem x7 (w:World) (g:Nat) (l:List Ab) (last:Int) (V:Nat→Prop) (hQ:ck g l last w V) :
 Calls au 304 #[((g:Nat):Value)] w fun e w'=>∃ A' q',e=.returned (.slice A' (min l.length 4) (min l.length 4))∧km w' (New w w') (New w w') A' (min l.length 4) q'∧q'.map fk.abs=l.take 4∧Grow w w':=by
 obtain⟨A,c,q,HQ,h3,hB,hI,hn,hm⟩:=hQ.Ib
 have e4:(q.take (min l.length 4)).map fk.abs=l.take 4:=by
  rw[List.map_take,HQ.out]
  rcases bn l.length 4 with h|h
  ·rw[aN (i:=4) al,aN al]
  ·rw[show min l.length 4=4 by omega]
 obtain⟨M,HM⟩:∃ M:Nat,Hid (M=min l.length 4):=⟨_,rfl⟩
 rw[←HM.out] at e4 ⊢
 have HT:=Lib.hid e4
 clear e4
 have hM:M≤l.length:=by rw[HM.out];omega
 have hck:¬ c<M:=by omega
 have hc4:(l.length≤4∧M=l.length)∨(4<l.length∧M=4):=by have:=HM.out;omega
 go_enter Tryz.func304,Tryz.ntmps304
 go_wp2_with fail
 rcases hc4 with ⟨h4,uZ⟩|⟨h4,uZ⟩
 ·have Nf:=Lib.hid uZ
  clear uZ
  refine bL 11 15 [] rfl rfl am am am ?_ ?_
  ·intro x hx φ he
   cases hx
  intro ops' A' K' T hops hA' hK hT
  refine bP 3 (((g:Nat):Value)) ?_
  refine bQ 4 (.tmp 3) (((g:Nat):Value)) (((g:Nat):Value)) ?_
  refine bQ 5 (.tmp 4) (((g:Nat):Value)) (((g:Nat):Value)) ?_
  refine bI 6 (.tmp 5) (((g:Nat):Value)) (.slice A l.length c) (fun ρ h1 kk w1 (hg:Grow _ w1) hb hf=>by have c:=(hB.grow hg).cell 0;go_simp) ?_
  refine bP 7 (((g:Nat):Value)) ?_
  refine bQ 8 (.tmp 7) (((g:Nat):Value)) (((g:Nat):Value)) ?_
  refine bQ 9 (.tmp 8) (((g:Nat):Value)) (((g:Nat):Value)) ?_
  refine bI 10 (.tmp 9) (((g:Nat):Value)) (.slice A l.length c) (fun ρ h1 kk w1 (hg:Grow _ w1) hb hf=>by have c:=(hB.grow hg).cell 0;go_simp) ?_
  refine bQ 11 (.tmp 10) (.slice A l.length c) (ae af (l.length:Int)) ?_
  refine cm 12 (.tmp 11) (.const (ae af 4)) (ae af (l.length:Int)) (ae af 4) (ae af (M:Int)) (fun ρ h1 h2 kk w1 (hg:Grow _ w1) hb hf=>by have h5:=Nf.out;go_simp;omega) ?_
  refine cm 13 (.tmp 6) (.tmp 12) (.slice A l.length c) (ae af (M:Int)) (.slice A M c) (fun ρ h1 h2 kk w1 (hg:Grow _ w1) hb hf=>by go_simp) ?_
  refine ce (fun _ _ w1 (hg:Grow _ w1) _ bR=>hT _ _ ?_)
  clear hops hA' hK hT
  simp only[cj,Act.put,aw,ay,az,ax,aB]
  go_wp2_with (go_at_call 162;refine (py _ V V A M c (q.take M) ((hI.grow hg).take hM) al al).mono ?_;rintro e w2 ⟨A1,q1,rfl,hI1,he1,hg1⟩)
  go_ret
  exact⟨A1,q1,rfl,hI1.mono (fun b hb=>⟨aH hg.size hb.1,hb.2⟩) (fun b hb=>⟨aH hg.size hb.1,hb.2⟩),he1.trans HT.out,hg.trans hg1⟩
 ·have Nf:=Lib.hid uZ
  clear uZ
  refine bL 11 15 [] rfl rfl am am am ?_ ?_
  ·intro x hx φ he
   cases hx
  intro ops' A' K' T hops hA' hK hT
  refine bP 3 (((g:Nat):Value)) ?_
  refine bQ 4 (.tmp 3) (((g:Nat):Value)) (((g:Nat):Value)) ?_
  refine bQ 5 (.tmp 4) (((g:Nat):Value)) (((g:Nat):Value)) ?_
  refine bI 6 (.tmp 5) (((g:Nat):Value)) (.slice A l.length c) (fun ρ h1 kk w1 (hg:Grow _ w1) hb hf=>by have c:=(hB.grow hg).cell 0;go_simp) ?_
  refine bP 7 (((g:Nat):Value)) ?_
  refine bQ 8 (.tmp 7) (((g:Nat):Value)) (((g:Nat):Value)) ?_
  refine bQ 9 (.tmp 8) (((g:Nat):Value)) (((g:Nat):Value)) ?_
  refine bI 10 (.tmp 9) (((g:Nat):Value)) (.slice A l.length c) (fun ρ h1 kk w1 (hg:Grow _ w1) hb hf=>by have c:=(hB.grow hg).cell 0;go_simp) ?_
  refine bQ 11 (.tmp 10) (.slice A l.length c) (ae af (l.length:Int)) ?_
  refine cm 12 (.tmp 11) (.const (ae af 4)) (ae af (l.length:Int)) (ae af 4) (ae af (M:Int)) (fun ρ h1 h2 kk w1 (hg:Grow _ w1) hb hf=>by have h5:=Nf.out;go_simp;omega) ?_
  refine cm 13 (.tmp 6) (.tmp 12) (.slice A l.length c) (ae af (M:Int)) (.slice A M c) (fun ρ h1 h2 kk w1 (hg:Grow _ w1) hb hf=>by go_simp) ?_
  refine ce (fun _ _ w1 (hg:Grow _ w1) _ bR=>hT _ _ ?_)
  clear hops hA' hK hT
  simp only[cj,Act.put,aw,ay,az,ax,aB]
  go_wp2_with (go_at_call 162;refine (py _ V V A M c (q.take M) ((hI.grow hg).take hM) al al).mono ?_;rintro e w2 ⟨A1,q1,rfl,hI1,he1,hg1⟩)
  go_ret
  exact⟨A1,q1,rfl,hI1.mono (fun b hb=>⟨aH hg.size hb.1,hb.2⟩) (fun b hb=>⟨aH hg.size hb.1,hb.2⟩),he1.trans HT.out,hg.trans hg1⟩
end Go.Proofs.YtmijcbfgfkeodaaGreatDoor.Q
end
