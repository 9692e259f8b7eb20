/- En3, En4, En5, Bk1. -/
import Derived.Test.YtmijcbfgfkeodaaGreatDoorGz07
set_option linter.all false
set_option maxRecDepth 100000
section
namespace Go.Proofs.YtmijcbfgfkeodaaGreatDoor
open Go.RowKit Go.Hop
structure El where
 (e:En) (A:Option Addr) (c:Nat)
def El.cells (x:El):List Value:=(x.e.agg x.A x.c).toList
def ElIn (w:World) (D:Nat→Prop) (x:El):Prop:=DIn w D x.A x.e.ds.length x.e.ds∧x.e.ds.length≤x.c∧x.c≤maxLen∧x.e.ds.length≤1048576
theorem el_len (x:El):x.cells.length=9:=rfl
theorem el_one (x:El):∀ u∈x.cells,u.oneCell'=true:=by
 intro u hu
 simp only[El.cells,En.agg,List.mem_cons,List.not_mem_nil,or_false] at hu
 rcases hu with rfl|rfl|rfl|rfl|rfl|rfl|rfl|rfl|rfl<;>rfl
theorem el_just:GoodJust ElIn:=fun _ _ _ _ _ h hj hd=>⟨In.just h.1 hj hd,h.2⟩
theorem el_mono:GoodMono ElIn:=fun _ _ _ _ h hd=>⟨In.mono h.1 hd,h.2⟩
theorem entry_info:(Tryz.prog.info? 32).map (fun i=>(i.zero,i.size,i.bytes))=some (some (.agg #[.int .i64 0,.int .i64 0,.int .i64 0,.int .i64 0,.int .i64 0,.slice none 0 0,.string ⟨#[]⟩,.int .i64 0,.int .i64 0]),9,96):=by kernel_rfl
theorem entryE:Elem Tryz.prog 39 32 9 96 (.agg #[.int .i64 0,.int .i64 0,.int .i64 0,.int .i64 0,.int .i64 0,.slice none 0 0,.string ⟨#[]⟩,.int .i64 0,.int .i64 0]):=⟨Tryz.underlying39,info_parts entry_info,rfl,by decide,by decide⟩
def Ens (w:World) (D:Nat→Prop) (A:Option Addr) (q:List El):Prop:=In w D 9 A q.length (q.flatMap El.cells)∧∀ x∈q,ElIn w D x
theorem Ens.grow {w w':World} {D:Nat→Prop} {A:Option Addr} {q:List El} (h:Ens w D A q) (hg:Grow w w'):Ens w' D A q:=⟨h.1.grow hg,fun x hx=>el_just _ _ _ _ _ (h.2 x hx) (Just.of_grow (V:=fun _=>False) hg) fun _ _ h=>h⟩
theorem Ens.just {w w':World} {D U:Nat→Prop} {A:Option Addr} {q:List El} (h:Ens w D A q) (hj:Just U w w') (hd:∀ b,D b→¬ U b):Ens w' D A q:=⟨h.1.just hj hd,fun x hx=>el_just _ _ _ _ _ (h.2 x hx) hj hd⟩
theorem Ens.mono {w:World} {D D':Nat→Prop} {A:Option Addr} {q:List El} (h:Ens w D A q) (hd:∀ b,D b→D' b):Ens w D' A q:=⟨h.1.mono hd,fun x hx=>el_mono _ _ _ _ (h.2 x hx) hd⟩
theorem Ens.nil {w:World} {D:Nat→Prop} {A:Option Addr}:Ens w D A []:=⟨In.nil,fun x hx=>absurd hx (by simp)⟩
def IsEns (l:List En) (w0:World) (u:Value) (w:World):Prop:=∃ (A:Option Addr) (c:Nat) (q:List El),u=.slice A q.length c∧Ens w (New w0 w) A q∧q.map El.e=l∧q.length≤c∧c≤maxLen
theorem Copy_any (w:World) (V:Nat→Prop) (x:El) (h:ElIn w V x) :
 Calls Tryz.prog 175 #[.agg (x.e.agg x.A x.c)] w fun en w'=>∃ A',en=.returned (.agg (x.e.agg A' x.e.ds.length))∧ElIn w' (New w w') ⟨x.e,A',x.e.ds.length⟩∧Grow w w':=by
 obtain⟨⟨k,ag,sh,sq,ep,ds,se,fr,tg⟩,A,c⟩:=x
 obtain⟨hd,hle,hmx,hsm⟩:=h
 unfold En.agg
 dsimp only at hd hle hmx hsm ⊢
 obtain⟨n,HN⟩:∃ n,Hid (n=ds.length):=⟨_,rfl⟩
 rw[←HN.out] at hd hle hsm ⊢
 have hg0:=(grow_alloc w (.cells #[.int .i64 k,.int .i64 ag,.int .i64 sh,.int .i64 sq,.int .i64 ep,.slice A n c,.string se,.int .i64 fr,.int .i64 tg] 32)).trans (grow_alloc _ (.cells #[.int .i64 0,.int .i64 0,.int .i64 0,.int .i64 0,.int .i64 0,.slice none 0 0,.string ⟨#[]⟩,.int .i64 0,.int .i64 0] 32))
 have hB0:=(Blk.made w 32 #[.int .i64 k,.int .i64 ag,.int .i64 sh,.int .i64 sq,.int .i64 ep,.slice A n c,.string se,.int .i64 fr,.int .i64 tg]).alloc (.cells #[.int .i64 0,.int .i64 0,.int .i64 0,.int .i64 0,.int .i64 0,.slice none 0 0,.string ⟨#[]⟩,.int .i64 0,.int .i64 0] 32)
 have hB1:=Blk.made (w.alloc (.cells #[.int .i64 k,.int .i64 ag,.int .i64 sh,.int .i64 sq,.int .i64 ep,.slice A n c,.string se,.int .i64 fr,.int .i64 tg] 32)) 32 #[.int .i64 0,.int .i64 0,.int .i64 0,.int .i64 0,.int .i64 0,.slice none 0 0,.string ⟨#[]⟩,.int .i64 0,.int .i64 0]
 obtain⟨x,HX⟩:∃ x:Nat,Hid (x=w.heap.size):=⟨_,rfl⟩
 have hx1:(w.alloc (.cells #[.int .i64 k,.int .i64 ag,.int .i64 sh,.int .i64 sq,.int .i64 ep,.slice A n c,.string se,.int .i64 fr,.int .i64 tg] 32)).heap.size=x+1:=by rw[HX.out];simp
 rw[hx1] at hB1
 rw[←HX.out] at hB0
 obtain⟨wa,HA⟩:∃ wa:World,Hid (wa=(w.alloc (.cells #[.int .i64 k,.int .i64 ag,.int .i64 sh,.int .i64 sq,.int .i64 ep,.slice A n c,.string se,.int .i64 fr,.int .i64 tg] 32)).alloc (.cells #[.int .i64 0,.int .i64 0,.int .i64 0,.int .i64 0,.int .i64 0,.slice none 0 0,.string ⟨#[]⟩,.int .i64 0,.int .i64 0] 32)):=⟨_,rfl⟩
 rw[←HA.out] at hB0 hB1 hg0
 have hsz:wa.heap.size=x+2:=by rw[HA.out,HX.out];simp
 go_enter Tryz.func175,Tryz.ntmps175
 go_wp2_with fail
 rw[←HA.out,←HX.out]
 refine (clone_any wa V A n c ds (In.grow hd hg0) (by omega)).mono ?_
 rintro e w1 ⟨A1,c1',rfl,hd1,hn1,hm1,hg1⟩
 go_wp2_with fail
 refine (clip_any w1 A1 n c1' hn1).mono ?_
 rintro e w2 ⟨rfl,rfl⟩
 have hC0:=hB0.grow hg1
 have hC1:=hB1.grow hg1
 have hP:=hC0.put 5 (.slice A1 n n)
 have hD:=hC1.far (p:=⟨x,5,none⟩) (show x+1≠x by omega) (.slice A1 n n)
 have f5:=hC0.frozen 5
 have d5:=hC0.cell 5
 have p0:=hP.cell 0
 have p1:=hP.cell 1
 have p2:=hP.cell 2
 have p3:=hP.cell 3
 have p4:=hP.cell 4
 have p5:=hP.cell 5
 have p6:=hP.cell 6
 have p7:=hP.cell 7
 have p8:=hP.cell 8
 have d0:=hD.cell 0
 have d1:=hD.cell 1
 have d2:=hD.cell 2
 have d3:=hD.cell 3
 have d4:=hD.cell 4
 have d5:=hD.cell 5
 have d6:=hD.cell 6
 have d7:=hD.cell 7
 have d8:=hD.cell 8
 have g0:=hD.frozen 0
 have g1:=hD.frozen 1
 have g2:=hD.frozen 2
 have g3:=hD.frozen 3
 have g4:=hD.frozen 4
 have g5:=hD.frozen 5
 have g6:=hD.frozen 6
 have g7:=hD.frozen 7
 have g8:=hD.frozen 8
 go_wp2_with fail
 change bodyPost _ _ _ _ _ (World.setCells (w1.setCell ⟨x,5,none⟩ (.slice A1 n n)) (x+1) 0 [.int .i64 k,.int .i64 ag,.int .i64 sh,.int .i64 sq,.int .i64 ep,.slice A1 n n,.string se,.int .i64 fr,.int .i64 tg])
 have hE:=Blk.all hD [.int .i64 k,.int .i64 ag,.int .i64 sh,.int .i64 sq,.int .i64 ep,.slice A1 n n,.string se,.int .i64 fr,.int .i64 tg] rfl
 have hF:∀ i,(World.setCells (w1.setCell ⟨x,5,none⟩ (.slice A1 n n)) (x+1) 0 [.int .i64 k,.int .i64 ag,.int .i64 sh,.int .i64 sq,.int .i64 ep,.slice A1 n n,.string se,.int .i64 fr,.int .i64 tg]).cell? ⟨(x+1),i,none⟩=#[.int .i64 k,.int .i64 ag,.int .i64 sh,.int .i64 sq,.int .i64 ep,.slice A1 n n,.string se,.int .i64 fr,.int .i64 tg][i]?:=hE.cell
 have e0:=hF 0
 have e1:=hF 1
 have e2:=hF 2
 have e3:=hF 3
 have e4:=hF 4
 have e5:=hF 5
 have e6:=hF 6
 have e7:=hF 7
 have e8:=hF 8
 refine bodyPost_ret (v := .agg #[.int .i64 k,.int .i64 ag,.int .i64 sh,.int .i64 sq,.int .i64 ep,.slice A1 n n,.string se,.int .i64 fr,.int .i64 tg]) (by simp[results,Tryz.results175,go_sem,e0,e1,e2,e3,e4,e5,e6,e7,e8]) rfl ?_
 have hj:Just (fun b=>b=x∨b=x+1) w1 ((w1.setCell ⟨x,5,none⟩ (.slice A1 n n)).setCells (x+1) 0 [.int .i64 k,.int .i64 ag,.int .i64 sh,.int .i64 sq,.int .i64 ep,.slice A1 n n,.string se,.int .i64 fr,.int .i64 tg]):=
  ((Just.of_grow (Grow.refl w1)).put (V:=fun b=>b=x∨b=x+1) (.inl rfl) 5 _).trans (Just.of_only (setCells_only _ _ _ _) (.inr rfl))
 have hgw:=Below.trans (hg0.trans hg1) (hj.below (B:=w.heap.size) (fun b hb=>by have:=HX.out;omega) (hg0.trans hg1).size)
 have hn:=HN.out
 subst hn
 refine⟨A1,rfl,⟨In.mono (V:=New wa w1) (In.just hd1 hj fun b hb=>by have:=hb.1;omega) fun b hb=>⟨by have:=hb.1;have:=hg0.size;omega,by have:=hb.2;simpa [setCells_size,setCell_size] using this⟩,Nat.le_refl _,(show ds.length≤maxLen by unfold maxLen;omega),hsm⟩,hgw⟩
theorem clip_ens (w:World) (A:Option Addr) (n c:Nat) (hn:n≤c) :
 Calls Tryz.prog 229 #[.slice A n c] w fun e w'=>e=.returned (.slice A n n)∧w=w':=by
 go_enter Tryz.func229,Tryz.ntmps229
 go_wp2_with fail
 go_ret
 exact⟨rfl,rfl⟩
theorem Copies_any (w:World) (V:Nat→Prop) (A:Option Addr) (c:Nat) (q:List El) (h:Ens w V A q) (hq:q.length≤1048576) :
 Calls Tryz.prog 168 #[.slice A q.length c] w fun e w'=>∃ u,e=.returned u∧IsEns (q.map El.e) w u w'∧(∃ A',u=.slice A' q.length q.length)∧Grow w w':=by
 go_enter Tryz.func168,Tryz.ntmps168
 go_wp2_with fail
 go_loopw [3,8] (fun s i wr=>∃ (k:Nat) (q':List El),k≤q.length∧i=.int .i64 k∧q'.length=k∧Acc 32 9 El.cells ElIn w s q' wr∧q'.map El.e=(q.take k).map El.e) (fun _ i _=>q.length-(intOf i).toNat)
 case atStart=>exact⟨0,[],by omega,rfl,rfl,Acc.nil w,by simp⟩
 case round=>
  obtain⟨k,q',hkn,rfl,hql,hA,habs⟩:=hrel
  have hg:=hA.base
  obtain⟨A1,c1,hsl⟩:=hA.slice
  rw[hql] at hsl
  subst hsl
  by_cases hk:k<q.length
  ·obtain⟨ad,hkq,rfl,hV,hB,e0,e1⟩:=(h.1.grow hg).rec_ (by omega) el_len hk
   have hbin:=(h.grow hg).2 q[k] (List.getElem_mem hkq)
   have hsn:q.take (k+1)=q.take k++[q[k]]:=List.take_succ_eq_append_getElem hkq
   have HS:=Lib.hid hsn
   clear hsn
   generalize q[k]=b at hbin e0 e1 HS
   have hcp:=fun w1 (hg1:Grow wr w1)=>Copy_any w1 V b (el_just _ _ _ _ _ hbin (Just.of_grow (V:=fun _=>False) hg1) fun _ _ h=>h)
   obtain⟨⟨bk,ag,sh,sq,ep,ds,se,fr,tg⟩,Ab,cb⟩:=b
   dsimp only[El.cells,En.agg] at e0 e1 hcp
   have e2:=e1 1 _ rfl
   have e3:=e1 2 _ rfl
   have e4:=e1 3 _ rfl
   have e5:=e1 4 _ rfl
   have e6:=e1 5 _ rfl
   have e7:=e1 6 _ rfl
   have e8:=e1 7 _ rfl
   have e1:=e1 0 _ rfl
   have e0:=e0 _ rfl
   have hga:=grow_alloc wr (.cells #[.int .i64 bk,.int .i64 ag,.int .i64 sh,.int .i64 sq,.int .i64 ep,.slice Ab ds.length cb,.string se,.int .i64 fr,.int .i64 tg] 32)
   have hcp:=hcp _ hga
   clear hbin
   go_wp2_with fail
   refine hcp.mono ?_
   rintro e w1 ⟨A2,rfl,hb2,hg1⟩
   go_wp2_with (at_builtin;refine stay ?_)
   refine stay_out ?_
   refine wpList_acc entryE el_just el_mono el_len el_one (by rfl) (.tmp 12) (.tmp 15) (by rfl) hA (hga.trans hg1) ⟨⟨bk,ag,sh,sq,ep,ds,se,fr,tg⟩,A2,ds.length⟩ (el_mono _ _ _ _ hb2 fun b hb=>⟨by have:=hb.1;simp at this;omega,hb.2⟩) (by omega) (by rfl) (by rfl) ?_
   intro v2 w2 hA2
   go_wp2_with fail
   go_roundw
   case rel=>exact⟨k+1,q'++[⟨⟨bk,ag,sh,sq,ep,ds,se,fr,tg⟩,A2,ds.length⟩],by omega,by go_num,by simp[hql],hA2,by rw[List.map_append,habs,HS.out,List.map_append];rfl⟩
   case measure=>simp[intOf];omega
  ·obtain rfl:k=q.length:=by omega
   have hD:=hA.done el_mono
   obtain⟨A3,c3,e3,h3,h4,h5,h6,h7⟩:=hD
   rw[hql] at e3 h5
   injection e3 with e3 e4 e5
   subst e3 e5
   go_wp2_with fail
   refine (clip_ens wr A1 q.length c1 h5).mono ?_
   rintro e w2 ⟨rfl,rfl⟩
   go_wp2_with fail
   go_ret
   exact⟨.slice A1 q.length q.length,rfl,⟨A1,q.length,q',by rw[hql],⟨h3,h4⟩,by rw[habs,List.take_length],by omega,by unfold maxLen;omega⟩,⟨A1,rfl⟩,h7⟩
end Go.Proofs.YtmijcbfgfkeodaaGreatDoor
end
section
namespace Go.Proofs.YtmijcbfgfkeodaaGreatDoor
open Go.RowKit Go.Hop Go.Proofs.YtmijcbfgfkeodaaGreatDoor.V
theorem vPut_is (w:World) (u:Value) (l:List UInt8) (m:Nat) (h:IsBytes l u w) (hl:l.length≤1099511627776) (hm:m<18446744073709551616) :
 Calls Tryz.prog 219 #[u,.int .u64 (m:Int)] w fun e w'=>∃ v,e=.returned v∧Grow w w'∧IsBytes (l++enc m) v w':=by
 obtain⟨A,n,c,rfl,hb,_⟩:=h
 exact (Put_any w A n c l hb (by rw[←hb.len];exact hl) m hm).mono fun _ _ ⟨v,he,hO,hg⟩=>⟨v,he,hg,Own.isBytes hO⟩
theorem vText_is (w:World) (u:Value) (l:List UInt8) (s:ByteArray) (h:IsBytes l u w) (hl:l.length≤1099511627776) (hs:s.size≤1099511627776) :
 Calls Tryz.prog 221 #[u,.string s] w fun e w'=>∃ v,e=.returned v∧Grow w w'∧IsBytes (l++enc s.size++s.data.toList) v w':=by
 obtain⟨A,n,c,rfl,hb,_⟩:=h
 exact (Text_any w A n c l hb (by rw[←hb.len];exact hl) s hs).mono fun _ _ ⟨v,he,hO,hg⟩=>⟨v,he,hg,Own.isBytes hO⟩
theorem isBytes_nil (w:World):IsBytes [] (.slice none 0 0) w:=⟨none,0,0,rfl,Reads.nil,Nat.le_refl _,Nat.zero_le _⟩
def dB (d:Dl):List UInt8:=enc d.1.size++d.1.data.toList++enc d.2
def dsB (l:List Dl):List UInt8:=l.flatMap dB
def Small (d:Dl):Prop:=d.1.size≤1000∧d.2<18446744073709551616
theorem dB_len {d:Dl} (h:Small d):(dB d).length≤1020:=by
 have h1:=enc_ten (n:=d.1.size) (by have:=h.1;omega)
 have h2:=enc_ten h.2
 have h3:d.1.data.toList.length=d.1.size:=rfl
 unfold dB
 rw[List.length_append,List.length_append,h3]
 have:=h.1
 omega
theorem dsB_len:∀ (l:List Dl),(∀ d∈l,Small d)→(dsB l).length≤l.length*1020
 | [],_=>by simp[dsB]
 | d :: l,h=>by
   have h1:=dsB_len l fun x hx=>h x (by simp[hx])
   have h2:=dB_len (h d (by simp))
   rw[show dsB (d :: l)=dB d++dsB l from rfl,List.length_append,List.length_cons]
   omega
theorem dsB_more (l:List Dl) (d:Dl):dsB (l++[d])=dsB l++dB d:=by simp[dsB]
theorem eDput_any (w:World) (u:Value) (l:List UInt8) (V:Nat→Prop) (A:Option Addr) (n c:Nat) (ds:List Dl) (hu:IsBytes l u w) (hl:l.length≤1048576) (hd:DIn w V A n ds) (hn:n≤1048576) (hs:∀ d∈ds,Small d) :
 Calls Tryz.prog 154 #[u,.slice A n c] w fun e w'=>∃ v,e=.returned v∧Grow w w'∧IsBytes (l++dsB ds) v w':=by
 have hln:=DIn.len hd
 have k221:∀ (vs:Array Value) (w:World),(callFunc 221 vs).run Tryz.prog w=.ok (.enter 221 vs) w:=fun vs w=>by go_simp
 have k219:∀ (vs:Array Value) (w:World),(callFunc 219 vs).run Tryz.prog w=.ok (.enter 219 vs) w:=fun vs w=>by go_simp
 go_enter Tryz.func154,Tryz.ntmps154
 go_wp2_with fail
 go_loopw [0,9] (fun v i wr=>∃ k:Nat,k≤n∧i=.int .i64 (k:Int)∧IsBytes (l++dsB (ds.take k)) v wr∧Grow w wr) (fun _ i _=>n-(intOf i).toNat)
 case atStart=>exact⟨0,by omega,rfl,by simpa [dsB] using hu,Grow.refl _⟩
 case round=>
  obtain⟨k,hkn,rfl,hB,hgr⟩:=hrel
  by_cases hk:k<n
  ·obtain⟨ad,hq,rfl,f0,f1⟩:=del_cells (In.grow hd hgr) hk
   have e0:=f0 wr (Grow.refl _)
   have e1:=f1 wr (Grow.refl _)
   have hsn:ds.take (k+1)=ds.take k++[ds[k]]:=List.take_succ_eq_append_getElem hq
   have hsm:=hs _ (List.getElem_mem hq)
   have HS:=Lib.hid hsn
   have hlb:=dsB_len (ds.take k) fun d hd=>hs d (List.mem_of_mem_take hd)
   rw[List.length_take,Nat.min_eq_left (by omega)] at hlb
   clear hsn f0 f1
   generalize ds[k]=y at e0 e1 hsm HS
   obtain⟨s,x⟩:=y
   dsimp only[Small] at e0 e1 hsm
   have HL:=Lib.hid hlb
   clear hlb
   obtain⟨L0,HL0⟩:∃ L0,Hid (L0=l++dsB (ds.take k)):=⟨_,rfl⟩
   rw[←HL0.out] at hB
   have hL0:L0.length≤1099511627776:=by rw[HL0.out,List.length_append];have:=HL.out;have:=Nat.mul_le_mul_right 1020 (show k≤1048576 by omega);omega
   obtain⟨b,HBb⟩:∃ b,Hid (b=wr.heap.size):=⟨_,rfl⟩
   obtain⟨wa,HA⟩:∃ wa:World,Hid (wa=wr.alloc (.cells #[.string s,.int .u64 (x:Int)] 29)):=⟨_,rfl⟩
   have hBk:=Blk.made wr 29 #[.string s,.int .u64 (x:Int)]
   have hga:=grow_alloc wr (.cells #[.string s,.int .u64 (x:Int)] 29)
   rw[←HA.out] at hBk hga
   rw[←HBb.out] at hBk
   have hBa:=hB.below hga
   go_wp2_with fail
   rw[←HA.out,←HBb.out]
   refine wp_region_flow 8 22 [(3,.inr (fun _=>IsBytes (L0++enc s.size++s.data.toList))),(6,.inr (fun _=>IsBytes (L0++enc s.size++s.data.toList++enc x)))] rfl rfl (by kernel_rfl) (by kernel_rfl) (by kernel_rfl) ?_ ?_
   ·intro x hx φ he
    simp only[List.mem_cons,List.not_mem_nil,or_false] at hx
    rcases hx with rfl|rfl<;>cases he
    all_goals first|exact lasts_quiet (lasting_bytes _)|fail
   intro ops' A' K' T hops hA' hK hT
   refine fl_mvN 13 (u0) ?_
   refine fl_op1G 14 (.tmp 6) (.pointer (some ⟨b,0,none⟩)) (.pointer (some ⟨b,0,none⟩)) ?_
   refine fl_op1N 15 (.tmp 14) (.pointer (some ⟨b,0,none⟩)) (.string s) (fun ρ h1 kk w1 (hg:Grow _ w1) hb hf=>by have c:=(hBk.grow hg).cell 0;go_simp) ?_
   refine fl_callAny 16 (by rfl) (by decide) (wanted_none (by rfl)) (fun _=>IsBytes (L0++enc s.size++s.data.toList)) (by rw[hK.out];rfl) 221 _ _ (by rfl) [u0,.string s] (by rfl) k221 (fun kk w1 (hg:Grow _ w1) hb hf=>calls_behindAny (φ:=fun _=>IsBytes (L0++enc s.size++s.data.toList)) (by rfl) (by exact vText_is w1 u0 L0 s (hBa.below hg) hL0 (by omega))) (fun v16=>?_)
   refine fl_op1G 17 (.tmp 6) (.pointer (some ⟨b,0,none⟩)) (.pointer (some ⟨b,1,none⟩)) ?_
   refine fl_op1N 18 (.tmp 17) (.pointer (some ⟨b,1,none⟩)) (.int .u64 (x:Int)) (fun ρ h1 kk w1 (hg:Grow _ w1) hb hf=>by have c:=(hBk.grow hg).cell 1;go_simp) ?_
   refine fl_callAny 19 (by rfl) (by decide) (wanted_none (by rfl)) (fun _=>IsBytes (L0++enc s.size++s.data.toList++enc x)) (by rw[hK.out];rfl) 219 _ _ (by rfl) [v16,.int .u64 (x:Int)] (by rfl) k219 (fun kk w1 (hg:Grow _ w1) hb hf=>calls_behindAny (φ:=fun _=>IsBytes (L0++enc s.size++s.data.toList++enc x)) (by rfl) (by exact vPut_is w1 v16 _ x (facts_take hf (by rw[hA'.out];kernel_rfl)) (by have:s.data.toList.length=s.size:=rfl;have:=enc_ten (n:=s.size) (by omega);simp only[List.length_append];have:=HL0.out;rw[HL0.out,List.length_append];have:=HL.out;have:=Nat.mul_le_mul_right 1020 (show k≤1048576 by omega);omega) hsm.2)) (fun v19=>?_)
   refine fl_mvN 0 (v19) ?_
   refine fl_end (fun _ _ w1 (hg:Grow _ w1) _ hfacts=>hT _ _ ?_)
   clear hops hA' hK hT
   simp only[putsL,Act.put,List.setIfInBounds_toArray,List.set_cons_zero,List.set_cons_succ,List.drop_succ_cons,List.drop_zero]
   have hE:=hfacts.1
   clear hfacts
   have hE2:IsBytes (l++dsB (ds.take (k+1))) v19 w1:=by
    rw[HS.out,dsB_more,←List.append_assoc,←HL0.out]
    show IsBytes (L0++(enc s.size++s.data.toList++enc x)) v19 w1
    rw[←List.append_assoc,←List.append_assoc]
    exact hE
   go_wp2_with fail
   go_roundw
   case rel=>exact⟨k+1,by omega,by go_num,hE2,hgr.trans (hga.trans hg)⟩
   case measure=>simp[intOf];omega
  ·obtain rfl:k=n:=by omega
   rw[List.take_of_length_le (by omega)] at hB
   go_wp2_with fail
   go_ret
   exact⟨_,rfl,hgr,hB⟩
def enB (e:En):List UInt8:=if e.k=2 then [UInt8.ofNat 2]++enc e.fr.toNat++enc e.tg.toNat++enc e.se.size++e.se.data.toList
 else [UInt8.ofNat 1]++enc e.fr.toNat++enc e.tg.toNat++([e.ag.toNat,e.sh.toNat,e.sq.toNat,e.ep.toNat,e.ds.length].flatMap enc)++dsB e.ds
theorem encs_len:∀ (l:List Nat),(∀ n∈l,n<18446744073709551616)→(l.flatMap enc).length≤l.length*10
 | [],_=>by simp
 | n :: l,h=>by
   have h1:=encs_len l fun x hx=>h x (by simp[hx])
   have h2:=enc_ten (h n (by simp))
   rw[List.flatMap_cons,List.length_append,List.length_cons]
   omega
theorem w_small {e:En} (h:e.W):∀ d∈e.ds,Small d:=fun d hd=>by
 obtain⟨h1,h2,h3,h4⟩:=h.2.2.2.2.2.2.2 d hd
 exact⟨h4,by omega⟩
theorem Bytes_r (w:World) (e:En) (V:Nat→Prop) (A:Option Addr) (c:Nat) (hok:e.Ok) (hr:e.R) (hd:DIn w V A e.ds.length e.ds) :
 Calls Tryz.prog 288 #[.agg (e.agg A c)] w fun en w'=>∃ v,en=.returned (.tuple #[v,.int .i64 0])∧Grow w w'∧IsBytes (enB e) v w':=by
 obtain⟨⟨hfr,htg⟩,_⟩:=id hok
 obtain⟨k,ag,sh,sq,ep,ds,se,fr,tg⟩:=e
 obtain⟨h1,h2,h3,h4,h5,h6,h7,hsz⟩:=hr
 simp only at h1 h2 h3 h4 h5 h6 hsz hfr htg
 subst h1 h2 h3 h4 h5 h6
 obtain⟨F,rfl⟩:=Int.eq_ofNat_of_zero_le hfr.1
 obtain⟨G,rfl⟩:=Int.eq_ofNat_of_zero_le htg.1
 unfold En.agg
 dsimp only[List.length_nil] at hd ⊢
 have k219:∀ (vs:Array Value) (w:World),(callFunc 219 vs).run Tryz.prog w=.ok (.enter 219 vs) w:=fun vs w=>by go_simp
 have hg0:=grow_alloc w (.cells #[.int .i64 2,.int .i64 0,.int .i64 0,.int .i64 0,.int .i64 0,.slice A 0 c,.string se,.int .i64 (F:Int),.int .i64 (G:Int)] 32)
 have hB:=Blk.made w 32 #[.int .i64 2,.int .i64 0,.int .i64 0,.int .i64 0,.int .i64 0,.slice A 0 c,.string se,.int .i64 (F:Int),.int .i64 (G:Int)]
 obtain⟨x,HX⟩:∃ x:Nat,Hid (x=w.heap.size):=⟨_,rfl⟩
 obtain⟨wa,HA⟩:∃ wa:World,Hid (wa=w.alloc (.cells #[.int .i64 2,.int .i64 0,.int .i64 0,.int .i64 0,.int .i64 0,.slice A 0 c,.string se,.int .i64 (F:Int),.int .i64 (G:Int)] 32)):=⟨_,rfl⟩
 rw[←HA.out] at hB hg0
 rw[←HX.out] at hB
 have hx:x<wa.heap.size:=hB.lt
 have hR:=Right_ok wa _ V A c hok (In.grow hd hg0)
 unfold En.agg at hR
 dsimp only at hR
 have c0:=fun (w1:World) (hg:Grow wa w1)=>(hB.grow hg).cell 0
 go_enter Tryz.func288,Tryz.ntmps288
 go_wp2_with fail
 rw[←HA.out,←HX.out]
 refine hR.mono ?_
 rintro e w2 ⟨rfl,hg2⟩
 have hBk:=hB.grow hg2
 have hgx:=hg0.trans hg2
 have wF:IntKind.u64.wrap (F:Int)=(F:Int):=by rw[wrap_u64];omega
 have wG:IntKind.u64.wrap (G:Int)=(G:Int):=by rw[wrap_u64];omega
 clear hR c0
 go_wp2_with fail
 refine wp_region_flow 13 65 [(3,.inr (fun _=>IsBytes [UInt8.ofNat 2])),(7,.inr (fun _=>IsBytes ([UInt8.ofNat 2]++enc F))),(11,.inr (fun _=>IsBytes ([UInt8.ofNat 2]++enc F++enc G)))] rfl rfl (by kernel_rfl) (by kernel_rfl) (by kernel_rfl) ?_ ?_
 ·intro x hx φ he
  simp only[List.mem_cons,List.not_mem_nil,or_false] at hx
  rcases hx with rfl|rfl|rfl<;>cases he
  all_goals first|exact lasts_quiet (lasting_bytes _)|fail
 intro ops' A' K' T hops hA' hK hT
 refine fl_op1G 13 (.tmp 1) (.pointer (some ⟨x,0,none⟩)) (.pointer (some ⟨x,0,none⟩)) ?_
 refine fl_op1N 14 (.tmp 13) (.pointer (some ⟨x,0,none⟩)) (.int .i64 2) (fun ρ h1 kk w1 (hg:Grow _ w1) hb hf=>by have c:=(hBk.grow hg).cell 0;go_simp) ?_
 refine fl_op1N 15 (.tmp 14) (.int .i64 2) (.int .u8 2) (fun ρ h1 kk w1 (hg:Grow _ w1) hb hf=>by go_simp;try rfl) ?_
 refine fl_any1 16 (by rfl) (by decide) (wanted_none (by rfl)) (fun _=>IsBytes [UInt8.ofNat 2]) (by rw[hK.out];rfl) (.tmp 15) (.int .u8 2) (by rfl) (fun ρ h1 kk w1 (hg:Grow _ w1) hb hf=>by refine upon_behindAny (φ:=fun _=>IsBytes [UInt8.ofNat 2]) (by rfl) ?_;exact flowUpon_value (w:=w1.alloc (.cells #[.int .u8 2] 5)) (by go_simp) ⟨grow_alloc w1 _,lit_is w1 #[.int .u8 2] 5 1 [UInt8.ofNat 2] rfl rfl (by decide)⟩) (fun v16=>?_)
 refine fl_op1G 17 (.tmp 1) (.pointer (some ⟨x,0,none⟩)) (.pointer (some ⟨x,7,none⟩)) ?_
 refine fl_op1N 18 (.tmp 17) (.pointer (some ⟨x,7,none⟩)) (.int .i64 (F:Int)) (fun ρ h1 kk w1 (hg:Grow _ w1) hb hf=>by have c:=(hBk.grow hg).cell 7;go_simp) ?_
 refine fl_op1N 19 (.tmp 18) (.int .i64 (F:Int)) (.int .u64 (F:Int)) (fun ρ h1 kk w1 (hg:Grow _ w1) hb hf=>by go_simp;try rfl) ?_
 refine fl_callAny 20 (by rfl) (by decide) (wanted_none (by rfl)) (fun _=>IsBytes ([UInt8.ofNat 2]++enc F)) (by rw[hK.out];rfl) 219 _ _ (by rfl) [v16,.int .u64 (F:Int)] (by rfl) k219 (fun kk w1 (hg:Grow _ w1) hb hf=>calls_behindAny (φ:=fun _=>IsBytes ([UInt8.ofNat 2]++enc F)) (by rfl) (by exact vPut_is w1 v16 [UInt8.ofNat 2] F (facts_take hf (by rw[hA'.out];kernel_rfl)) (by simp) (by omega))) (fun v20=>?_)
 refine fl_op1G 21 (.tmp 1) (.pointer (some ⟨x,0,none⟩)) (.pointer (some ⟨x,8,none⟩)) ?_
 refine fl_op1N 22 (.tmp 21) (.pointer (some ⟨x,8,none⟩)) (.int .i64 (G:Int)) (fun ρ h1 kk w1 (hg:Grow _ w1) hb hf=>by have c:=(hBk.grow hg).cell 8;go_simp) ?_
 refine fl_op1N 23 (.tmp 22) (.int .i64 (G:Int)) (.int .u64 (G:Int)) (fun ρ h1 kk w1 (hg:Grow _ w1) hb hf=>by go_simp;try rfl) ?_
 refine fl_callAny 24 (by rfl) (by decide) (wanted_none (by rfl)) (fun _=>IsBytes ([UInt8.ofNat 2]++enc F++enc G)) (by rw[hK.out];rfl) 219 _ _ (by rfl) [v20,.int .u64 (G:Int)] (by rfl) k219 (fun kk w1 (hg:Grow _ w1) hb hf=>calls_behindAny (φ:=fun _=>IsBytes ([UInt8.ofNat 2]++enc F++enc G)) (by rfl) (by exact vPut_is w1 v20 ([UInt8.ofNat 2]++enc F) G (facts_take hf (by rw[hA'.out];kernel_rfl)) (by have:=enc_ten (n:=F) (by omega);rw[List.length_append];simp only[List.length_singleton];omega) (by omega))) (fun v24=>?_)
 refine fl_mvN 5 (v24) ?_
 refine fl_end (fun _ _ w1 (hg:Grow _ w1) _ hfacts=>hT _ _ ?_)
 clear hops hA' hK hT
 simp only[putsL,Act.put,List.setIfInBounds_toArray,List.set_cons_zero,List.set_cons_succ,List.drop_succ_cons,List.drop_zero]
 have hE:=hfacts.1
 clear hfacts
 have c0:=(hBk.grow hg).cell 0
 have c6:=(hBk.grow hg).cell 6
 have hTx:=vText_is w1 v24 _ se hE (by have:=enc_ten (n:=F) (by omega);have:=enc_ten (n:=G) (by omega);simp only[List.length_append,List.length_singleton];omega) (by omega)
 go_wp2_with fail
 refine hTx.mono ?_
 rintro e w3 ⟨v3,rfl,hg3,hE3⟩
 go_wp2_with fail
 go_ret2
 refine⟨v3,rfl,hgx.trans (hg.trans hg3),?_⟩
 unfold enB
 rw[if_pos rfl]
 simpa only[Int.toNat_natCast,List.append_assoc] using hE3
set_option maxHeartbeats 2000000 in
theorem Bytes_w (w:World) (e:En) (V:Nat→Prop) (A:Option Addr) (c:Nat) (hok:e.Ok) (hr:e.W) (hd:DIn w V A e.ds.length e.ds) :
 Calls Tryz.prog 288 #[.agg (e.agg A c)] w fun en w'=>∃ v,en=.returned (.tuple #[v,.int .i64 0])∧Grow w w'∧IsBytes (enB e) v w':=by
 obtain⟨⟨hfr,htg⟩,_⟩:=id hok
 have hsm:=w_small hr
 obtain⟨k,ag,sh,sq,ep,ds,se,fr,tg⟩:=e
 obtain⟨h1,h2,h3,h4,h5,h6,h7,_⟩:=hr
 simp only at h1 h2 h3 h4 h5 h6 h7 hfr htg hsm
 subst h1 h2
 obtain⟨F,rfl⟩:=Int.eq_ofNat_of_zero_le hfr.1
 obtain⟨G,rfl⟩:=Int.eq_ofNat_of_zero_le htg.1
 obtain⟨AG,rfl⟩:=Int.eq_ofNat_of_zero_le h3.1
 obtain⟨SH,rfl⟩:=Int.eq_ofNat_of_zero_le h4.1
 obtain⟨SQ,rfl⟩:=Int.eq_ofNat_of_zero_le (show 0≤sq by omega)
 obtain⟨EP,rfl⟩:=Int.eq_ofNat_of_zero_le (show 0≤ep by omega)
 unfold En.agg
 dsimp only at hd ⊢
 have k219:∀ (vs:Array Value) (w:World),(callFunc 219 vs).run Tryz.prog w=.ok (.enter 219 vs) w:=fun vs w=>by go_simp
 have hg0:=grow_alloc w (.cells #[.int .i64 1,.int .i64 (AG:Int),.int .i64 (SH:Int),.int .i64 (SQ:Int),.int .i64 (EP:Int),.slice A ds.length c,.string ⟨#[]⟩,.int .i64 (F:Int),.int .i64 (G:Int)] 32)
 have hB:=Blk.made w 32 #[.int .i64 1,.int .i64 (AG:Int),.int .i64 (SH:Int),.int .i64 (SQ:Int),.int .i64 (EP:Int),.slice A ds.length c,.string ⟨#[]⟩,.int .i64 (F:Int),.int .i64 (G:Int)]
 obtain⟨x,HX⟩:∃ x:Nat,Hid (x=w.heap.size):=⟨_,rfl⟩
 obtain⟨wa,HA⟩:∃ wa:World,Hid (wa=w.alloc (.cells #[.int .i64 1,.int .i64 (AG:Int),.int .i64 (SH:Int),.int .i64 (SQ:Int),.int .i64 (EP:Int),.slice A ds.length c,.string ⟨#[]⟩,.int .i64 (F:Int),.int .i64 (G:Int)] 32)):=⟨_,rfl⟩
 rw[←HA.out] at hB hg0
 rw[←HX.out] at hB
 have hx:x<wa.heap.size:=hB.lt
 have hR:=Right_ok wa _ V A c hok (In.grow hd hg0)
 unfold En.agg at hR
 dsimp only at hR
 have c0:=fun (w1:World) (hg:Grow wa w1)=>(hB.grow hg).cell 0
 go_enter Tryz.func288,Tryz.ntmps288
 go_wp2_with fail
 rw[←HA.out,←HX.out]
 refine hR.mono ?_
 rintro e w2 ⟨rfl,hg2⟩
 have hBk:=hB.grow hg2
 have hgx:=hg0.trans hg2
 have wF:IntKind.u64.wrap (F:Int)=(F:Int):=by rw[wrap_u64];omega
 have wG:IntKind.u64.wrap (G:Int)=(G:Int):=by rw[wrap_u64];omega
 clear hR c0
 go_wp2_with fail
 refine wp_region_flow 13 65 [(3,.inr (fun _=>IsBytes [UInt8.ofNat 1])),(7,.inr (fun _=>IsBytes ([UInt8.ofNat 1]++enc F))),(11,.inr (fun _=>IsBytes ([UInt8.ofNat 1]++enc F++enc G)))] rfl rfl (by kernel_rfl) (by kernel_rfl) (by kernel_rfl) ?_ ?_
 ·intro x hx φ he
  simp only[List.mem_cons,List.not_mem_nil,or_false] at hx
  rcases hx with rfl|rfl|rfl<;>cases he
  all_goals first|exact lasts_quiet (lasting_bytes _)|fail
 intro ops' A' K' T hops hA' hK hT
 refine fl_op1G 13 (.tmp 1) (.pointer (some ⟨x,0,none⟩)) (.pointer (some ⟨x,0,none⟩)) ?_
 refine fl_op1N 14 (.tmp 13) (.pointer (some ⟨x,0,none⟩)) (.int .i64 1) (fun ρ h1 kk w1 (hg:Grow _ w1) hb hf=>by have c:=(hBk.grow hg).cell 0;go_simp) ?_
 refine fl_op1N 15 (.tmp 14) (.int .i64 1) (.int .u8 1) (fun ρ h1 kk w1 (hg:Grow _ w1) hb hf=>by go_simp;try rfl) ?_
 refine fl_any1 16 (by rfl) (by decide) (wanted_none (by rfl)) (fun _=>IsBytes [UInt8.ofNat 1]) (by rw[hK.out];rfl) (.tmp 15) (.int .u8 1) (by rfl) (fun ρ h1 kk w1 (hg:Grow _ w1) hb hf=>by refine upon_behindAny (φ:=fun _=>IsBytes [UInt8.ofNat 1]) (by rfl) ?_;exact flowUpon_value (w:=w1.alloc (.cells #[.int .u8 1] 5)) (by go_simp) ⟨grow_alloc w1 _,lit_is w1 #[.int .u8 1] 5 1 [UInt8.ofNat 1] rfl rfl (by decide)⟩) (fun v16=>?_)
 refine fl_op1G 17 (.tmp 1) (.pointer (some ⟨x,0,none⟩)) (.pointer (some ⟨x,7,none⟩)) ?_
 refine fl_op1N 18 (.tmp 17) (.pointer (some ⟨x,7,none⟩)) (.int .i64 (F:Int)) (fun ρ h1 kk w1 (hg:Grow _ w1) hb hf=>by have c:=(hBk.grow hg).cell 7;go_simp) ?_
 refine fl_op1N 19 (.tmp 18) (.int .i64 (F:Int)) (.int .u64 (F:Int)) (fun ρ h1 kk w1 (hg:Grow _ w1) hb hf=>by go_simp;try rfl) ?_
 refine fl_callAny 20 (by rfl) (by decide) (wanted_none (by rfl)) (fun _=>IsBytes ([UInt8.ofNat 1]++enc F)) (by rw[hK.out];rfl) 219 _ _ (by rfl) [v16,.int .u64 (F:Int)] (by rfl) k219 (fun kk w1 (hg:Grow _ w1) hb hf=>calls_behindAny (φ:=fun _=>IsBytes ([UInt8.ofNat 1]++enc F)) (by rfl) (by exact vPut_is w1 v16 [UInt8.ofNat 1] F (facts_take hf (by rw[hA'.out];kernel_rfl)) (by simp) (by omega))) (fun v20=>?_)
 refine fl_op1G 21 (.tmp 1) (.pointer (some ⟨x,0,none⟩)) (.pointer (some ⟨x,8,none⟩)) ?_
 refine fl_op1N 22 (.tmp 21) (.pointer (some ⟨x,8,none⟩)) (.int .i64 (G:Int)) (fun ρ h1 kk w1 (hg:Grow _ w1) hb hf=>by have c:=(hBk.grow hg).cell 8;go_simp) ?_
 refine fl_op1N 23 (.tmp 22) (.int .i64 (G:Int)) (.int .u64 (G:Int)) (fun ρ h1 kk w1 (hg:Grow _ w1) hb hf=>by go_simp;try rfl) ?_
 refine fl_callAny 24 (by rfl) (by decide) (wanted_none (by rfl)) (fun _=>IsBytes ([UInt8.ofNat 1]++enc F++enc G)) (by rw[hK.out];rfl) 219 _ _ (by rfl) [v20,.int .u64 (G:Int)] (by rfl) k219 (fun kk w1 (hg:Grow _ w1) hb hf=>calls_behindAny (φ:=fun _=>IsBytes ([UInt8.ofNat 1]++enc F++enc G)) (by rfl) (by exact vPut_is w1 v20 ([UInt8.ofNat 1]++enc F) G (facts_take hf (by rw[hA'.out];kernel_rfl)) (by have:=enc_ten (n:=F) (by omega);rw[List.length_append];simp only[List.length_singleton];omega) (by omega))) (fun v24=>?_)
 refine fl_mvN 5 (v24) ?_
 refine fl_end (fun _ _ w1 (hg:Grow _ w1) _ hfacts=>hT _ _ ?_)
 clear hops hA' hK hT
 simp only[putsL,Act.put,List.setIfInBounds_toArray,List.set_cons_zero,List.set_cons_succ,List.drop_succ_cons,List.drop_zero]
 have hE:=hfacts.1
 clear hfacts
 have hBk1:=hBk.grow hg
 have c0:=hBk1.cell 0
 have c1:=hBk1.cell 1
 have c2:=hBk1.cell 2
 have c3:=hBk1.cell 3
 have c4:=hBk1.cell 4
 have c5:=hBk1.cell 5
 have c6:=hBk1.cell 6
 have c7:=hBk1.cell 7
 have c8:=hBk1.cell 8
 have wA:IntKind.u64.wrap (AG:Int)=(AG:Int):=by rw[wrap_u64];omega
 have wS:IntKind.u64.wrap (SH:Int)=(SH:Int):=by rw[wrap_u64];omega
 have wQ:IntKind.u64.wrap (SQ:Int)=(SQ:Int):=by rw[wrap_u64];omega
 have wE:IntKind.u64.wrap (EP:Int)=(EP:Int):=by rw[wrap_u64];omega
 have wD:IntKind.u64.wrap (ds.length:Int)=(ds.length:Int):=by rw[wrap_u64];omega
 obtain⟨L0,HL0⟩:∃ L0,Hid (L0=[UInt8.ofNat 1]++enc F++enc G):=⟨_,rfl⟩
 rw[←HL0.out] at hE
 have hL0:L0.length≤21:=by have:=enc_ten (n:=F) (by omega);have:=enc_ten (n:=G) (by omega);rw[HL0.out];simp only[List.length_append,List.length_singleton];omega
 obtain⟨N,HN⟩:∃ N:List Nat,Hid (N=[AG,SH,SQ,EP,ds.length]):=⟨_,rfl⟩
 have hN5:N.length=5:=by rw[HN.out];rfl
 have hNs:∀ n∈N,n<18446744073709551616:=by rw[HN.out];intro n hn;simp at hn;omega
 have hgn:=grow_alloc w1 (.cells #[.int .u64 (AG:Int),.int .u64 (SH:Int),.int .u64 (SQ:Int),.int .u64 (EP:Int),.int .u64 (ds.length:Int)] 27)
 have hNb:=Blk.made w1 27 #[.int .u64 (AG:Int),.int .u64 (SH:Int),.int .u64 (SQ:Int),.int .u64 (EP:Int),.int .u64 (ds.length:Int)]
 obtain⟨y,HY⟩:∃ y:Nat,Hid (y=w1.heap.size):=⟨_,rfl⟩
 obtain⟨wb,HB⟩:∃ wb:World,Hid (wb=w1.alloc (.cells #[.int .u64 (AG:Int),.int .u64 (SH:Int),.int .u64 (SQ:Int),.int .u64 (EP:Int),.int .u64 (ds.length:Int)] 27)):=⟨_,rfl⟩
 rw[←HB.out] at hNb hgn
 rw[←HY.out] at hNb
 have hEb:=hE.below hgn
 have hNc:∀ (wr:World),Grow wb wr→∀ k,(hk:k<N.length)→wr.cell? ⟨y,k,none⟩=some (.int .u64 (N[k]:Int)):=fun wr hgr k hk=>by
  rw[(hNb.grow hgr).cell k]
  subst_eqs
  have h5:k<5:=by omega
  have hN:=HN.out
  subst hN
  match k,h5 with
  | 0,_=>rfl
  | 1,_=>rfl
  | 2,_=>rfl
  | 3,_=>rfl
  | 4,_=>rfl
 have hBk2:=hBk1.grow hgn
 have hga:=hgx.trans (hg.trans hgn)
 go_wp2_with fail
 rw[←HB.out,←HY.out]
 clear c0 c1 c2 c3 c4 c5 c6 c7 c8
 go_loopw [5,53] (fun v i wr=>∃ k:Nat,k≤5∧i=.int .i64 (k:Int)∧IsBytes (L0++(N.take k).flatMap enc) v wr∧Grow wb wr) (fun _ i _=>5-(intOf i).toNat)
 case atStart=>exact⟨0,by omega,rfl,by simpa using hEb,Grow.refl _⟩
 case round=>
  obtain⟨k,hkn,rfl,hI,hgr⟩:=hrel
  by_cases hk:k<5
  ·have cN:=hNc wr hgr k (by omega)
   clear hNc
   have hkN:k<N.length:=by omega
   have hsn:N.take (k+1)=N.take k++[N[k]]:=List.take_succ_eq_append_getElem hkN
   have hlt:=hNs _ (List.getElem_mem hkN)
   have HS:=Lib.hid hsn
   clear hsn
   generalize N[k]=m at cN hlt HS
   have hle:=encs_len (N.take k) fun n hn=>hNs n (List.mem_of_mem_take hn)
   rw[List.length_take] at hle
   have hPt:=vPut_is wr u5 _ m hI (by rw[List.length_append];omega) hlt
   have hdk:decide ((k:Int)<5)=true:=decide_eq_true (by omega)
   go_wp2_with fail
   refine hPt.mono ?_
   rintro e w3 ⟨v3,rfl,hg3,hE3⟩
   go_wp2_with fail
   go_roundw
   case rel=>exact⟨k+1,by omega,by go_num,by rw[HS.out,List.flatMap_append,List.flatMap_cons,List.flatMap_nil,List.append_nil,←List.append_assoc];exact hE3,hgr.trans hg3⟩
   case measure=>simp[intOf];omega
  ·obtain rfl:k=5:=by omega
   have c5:=(hBk2.grow hgr).cell 5
   rw[List.take_of_length_le (by omega)] at hI
   have hle:=encs_len N hNs
   have hDp:=eDput_any wr u5 _ V A ds.length c ds hI (by rw[List.length_append];omega) (In.grow hd (hga.trans hgr)) (by omega) hsm
   go_wp2_with fail
   refine hDp.mono ?_
   rintro e w3 ⟨v3,rfl,hg3,hE3⟩
   go_wp2_with fail
   go_ret2
   refine⟨v3,rfl,hga.trans (hgr.trans hg3),?_⟩
   unfold enB
   rw[if_neg (show ¬ (1:Int)=2 by decide)]
   dsimp only
   rw[Int.toNat_natCast,Int.toNat_natCast,Int.toNat_natCast,Int.toNat_natCast,Int.toNat_natCast,Int.toNat_natCast,←HN.out,←HL0.out]
   exact hE3
theorem Bytes_ok (w:World) (e:En) (V:Nat→Prop) (A:Option Addr) (c:Nat) (hok:e.Ok) (hd:DIn w V A e.ds.length e.ds) :
 Calls Tryz.prog 288 #[.agg (e.agg A c)] w fun en w'=>∃ v,en=.returned (.tuple #[v,.int .i64 0])∧Grow w w'∧IsBytes (enB e) v w':=
 hok.2.elim (fun h=>Bytes_w w e V A c hok h hd) (fun h=>Bytes_r w e V A c hok h hd)
def recB (k:Nat) (ns:List Nat):List UInt8:=enc k++ns.flatMap enc
theorem recs_len:∀ (ns:List Nat),(∀ x∈ns,x<18446744073709551616)→(ns.flatMap enc).length≤ns.length*10
 | [],_=>by simp
 | x :: ns,h=>by
   have:=recs_len ns fun y hy=>h y (by simp[hy])
   have:=enc_ten (h x (by simp))
   simp only[List.flatMap_cons,List.length_append,List.length_cons]
   omega
theorem record_any (w:World) (k:Nat) (A:Option Addr) (n c:Nat) (ns:List Nat) (D:Nat→Prop) (h:In w D 1 A n (ns.map fun (x:Nat) => .int .i64 (x:Int))) (hk:k<18446744073709551616) (hn:n≤8) (hs:∀ x∈ns,x≤9223372036854775807) :
 Calls Tryz.prog 150 #[.int .u64 (k:Int),.slice A n c] w fun e w'=>∃ v,e=.returned v∧Grow w w'∧IsBytes (recB k ns) v w':=by
 have hln:ns.length=n:=by have:=h.1;simpa using this
 have hP:=vPut_is w _ [] k (isBytes_nil w) (by simp) hk
 go_enter Tryz.func150,Tryz.ntmps150
 go_wp2_with fail
 refine hP.mono ?_
 rintro e w1 ⟨v1,rfl,hg1,hI1⟩
 have hk10:=enc_ten hk
 go_wp2_with fail
 go_loopw [5,12] (fun v i wr=>∃ j:Nat,j≤n∧i=.int .i64 (j:Int)∧IsBytes (recB k (ns.take j)) v wr∧Grow w wr) (fun _ i _=>n-(intOf i).toNat)
 case atStart=>exact⟨0,by omega,rfl,by simpa [recB] using hI1,hg1⟩
 case round=>
  obtain⟨j,hjn,rfl,hB,hgr⟩:=hrel
  by_cases hj:j<n
  ·obtain⟨ad,hA,hD,hlt,hc⟩:=(h.grow hgr).2 (by omega)
   subst hA
   have hq:j<ns.length:=by omega
   have e0:=hc j (.int .i64 (ns[j]:Int)) (by simp[hq])
   have e1:wr.cell? (ad.add (j*1))=some (.int .i64 (ns[j]:Int)):=by rw[Nat.mul_one];exact e0
   have hsn:ns.take (j+1)=ns.take j++[ns[j]]:=List.take_succ_eq_append_getElem hq
   have HS:=Lib.hid hsn
   have hsm:=hs _ (List.getElem_mem hq)
   have hl:=recs_len (ns.take j) fun x hx=>by have:=hs x (List.mem_of_mem_take hx);omega
   rw[List.length_take,Nat.min_eq_left (by omega)] at hl
   clear hsn hc
   generalize ns[j]=x at e0 e1 hsm HS
   have hx:IntKind.u64.wrap (x:Int)=(x:Int):=by rw[wrap_u64];omega
   have hL0:(recB k (ns.take j)).length≤1099511627776:=by unfold recB;rw[List.length_append];omega
   have HL:=Lib.hid hl
   clear hl
   have hP:=vPut_is wr u5 _ x hB hL0 (by omega)
   go_wp2_with fail
   refine hP.mono ?_
   rintro e w2 ⟨v2,rfl,hg2,hI2⟩
   have hI3:IsBytes (recB k (ns.take (j+1))) v2 w2:=by
    rw[HS.out]
    unfold recB at hI2 ⊢
    rw[List.flatMap_append,List.flatMap_singleton,←List.append_assoc]
    exact hI2
   go_wp2_with fail
   go_roundw
   case rel=>exact⟨j+1,by omega,by go_num,hI3,hgr.trans hg2⟩
   case measure=>simp[intOf];omega
  ·obtain rfl:j=n:=by omega
   rw[List.take_of_length_le (by omega)] at hB
   go_wp2_with fail
   go_ret
   exact⟨_,rfl,hgr,hB⟩
theorem bEpoch_any (w:World) (n:Nat) (hn:n≤9223372036854775807):Calls Tryz.prog 69 #[.int .i64 (n:Int)] w fun e w'=>∃ v,e=.returned v∧Grow w w'∧IsBytes (recB 1 [n]) v w':=by
 have hga:=grow_alloc w (.cells #[.int .i64 (n:Int)] 2)
 have hB:=Blk.made w 2 #[.int .i64 (n:Int)]
 have hR:=record_any _ 1 (some ⟨w.heap.size,0,none⟩) 1 1 [n] (fun b=>b=w.heap.size) (hB.in_ (size:=1) (n:=1) rfl) (by decide) (by decide) (by intro x hx;simp only[List.mem_cons,List.not_mem_nil,or_false] at hx;omega)
 go_enter Tryz.func69,Tryz.ntmps69
 go_wp2_with fail
 refine hR.mono ?_
 rintro e w1 ⟨v,rfl,hg,hI⟩
 go_wp2_with fail
 go_ret
 exact⟨v,rfl,hga.trans hg,hI⟩
theorem bDone_any (w:World) (k n:Nat) (hk:k≤9223372036854775807) (hn:n≤9223372036854775807):Calls Tryz.prog 347 #[.int .i64 (k:Int),.int .i64 (n:Int)] w fun e w'=>∃ v,e=.returned v∧Grow w w'∧IsBytes (recB 5 [k,n]) v w':=by
 have hga:=grow_alloc w (.cells #[.int .i64 (k:Int),.int .i64 (n:Int)] 2)
 have hB:=Blk.made w 2 #[.int .i64 (k:Int),.int .i64 (n:Int)]
 have hR:=record_any _ 5 (some ⟨w.heap.size,0,none⟩) 2 2 [k,n] (fun b=>b=w.heap.size) (hB.in_ (size:=1) (n:=2) rfl) (by decide) (by decide) (by intro x hx;simp only[List.mem_cons,List.not_mem_nil,or_false] at hx;omega)
 go_enter Tryz.func347,Tryz.ntmps347
 go_wp2_with fail
 refine hR.mono ?_
 rintro e w1 ⟨v,rfl,hg,hI⟩
 go_wp2_with fail
 go_ret
 exact⟨v,rfl,hga.trans hg,hI⟩
end Go.Proofs.YtmijcbfgfkeodaaGreatDoor
end
