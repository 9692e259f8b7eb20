/- Qbat, Qsome, Qque. -/
import Derived.Test.YtmijcbfgfkeodaaGreatDoorHz05
set_option linter.all false
set_option maxRecDepth 100000
section
namespace Go.Proofs.YtmijcbfgfkeodaaGreatDoor.Q
open Go.RowKit Go.Hop
structure Bat where
 seq:Int
 A:Option Addr
 m:Nat
 c:Nat
 ds:List Dl
def Bat.cells (b:Bat):List Value:=[.int .i64 b.seq,.slice b.A b.m b.c]
def Bat.abs (b:Bat):Int×List Dl:=(b.seq,b.ds)
theorem bat_len (b:Bat):b.cells.length=2:=rfl
theorem bat_one (b:Bat):∀ u∈b.cells,u.oneCell'=true:=by
 intro u hu
 simp only[Bat.cells,List.mem_cons,List.not_mem_nil,or_false] at hu
 rcases hu with rfl|rfl<;>rfl
theorem bats_one (q:List Bat):∀ u∈q.flatMap Bat.cells,u.oneCell'=true:=by
 intro u hu
 obtain⟨b,_,hb⟩:=List.mem_flatMap.1 hu
 exact bat_one b u hb
theorem bats_len (q:List Bat):(q.flatMap Bat.cells).length=q.length*2:=flat_length Bat.cells 2 bat_len q
structure BatIn (w:World) (V:Nat→Prop) (b:Bat):Prop where
 ds:DIn w V b.A b.m b.ds
 le:b.m≤b.c
 max:b.c≤maxLen
 small:b.m≤8
theorem BatIn.mono {w:World} {V V':Nat→Prop} {b:Bat} (h:BatIn w V b) (hV:∀ b,V b→V' b):BatIn w V' b:=⟨In.mono h.ds hV,h.le,h.max,h.small⟩
theorem BatIn.grow {w w':World} {V:Nat→Prop} {b:Bat} (h:BatIn w V b) (hg:Grow w w'):BatIn w' V b:=⟨In.grow h.ds hg,h.le,h.max,h.small⟩
theorem BatIn.just {w w':World} {V U:Nat→Prop} {b:Bat} (h:BatIn w V b) (hj:Just U w w') (hd:∀ b,V b→¬ U b):BatIn w' V b:=⟨In.just h.ds hj hd,h.le,h.max,h.small⟩
theorem batch_info:(Tryz.prog.info? 159).map (fun i=>(i.zero,i.size,i.bytes))=some (some (.agg #[.int .i64 0,.slice none 0 0]),2,32):=by kernel_rfl
theorem batchE:Elem Tryz.prog 156 159 2 32 (.agg #[.int .i64 0,.slice none 0 0]):=⟨Tryz.underlying156,info_parts batch_info,rfl,by decide,by decide⟩
theorem own_any (w:World) (V:Nat→Prop) (b:Bat) (h:BatIn w V b) :
 Calls Tryz.prog 226 #[.agg #[.int .i64 b.seq,.slice b.A b.m b.c]] w fun e w'=>∃ A',e=.returned (.agg #[.int .i64 b.seq,.slice A' b.m b.m])∧BatIn w' (New w w') ⟨b.seq,A',b.m,b.m,b.ds⟩∧Grow w w':=by
 obtain⟨sq,A,m,c,ds⟩:=b
 obtain⟨hd,hle,hmx,hsm⟩:=h
 dsimp only at hd hle hmx hsm ⊢
 have hg0:Grow w ((w.alloc (.cells #[.int .i64 sq,.slice A m c] 159)).alloc (.cells #[.int .i64 0,.slice none 0 0] 159)):=((Below.refl _ _).alloc (Nat.le_refl _) _).alloc (by simp) _
 have hB0:=(Blk.made w 159 #[.int .i64 sq,.slice A m c]).alloc (.cells #[.int .i64 0,.slice none 0 0] 159)
 have hB1:=Blk.made (w.alloc (.cells #[.int .i64 sq,.slice A m c] 159)) 159 #[.int .i64 0,.slice none 0 0]
 obtain⟨x,HX⟩:∃ x:Nat,Hid (x=w.heap.size):=⟨_,rfl⟩
 have hx1:(w.alloc (.cells #[.int .i64 sq,.slice A m c] 159)).heap.size=x+1:=by rw[HX.out];simp
 rw[hx1] at hB1
 rw[←HX.out] at hB0
 obtain⟨wa,HA⟩:∃ wa:World,Hid (wa=(w.alloc (.cells #[.int .i64 sq,.slice A m c] 159)).alloc (.cells #[.int .i64 0,.slice none 0 0] 159)):=⟨_,rfl⟩
 rw[←HA.out] at hB0 hB1 hg0
 have c1:=hB0.cell 1
 have hsz:wa.heap.size=x+2:=by rw[HA.out,HX.out];simp
 go_enter Tryz.func226,Tryz.ntmps226
 go_wp2_with fail
 rw[←HA.out,←HX.out]
 refine (clone_any wa V A m c ds (In.grow hd hg0) (by omega)).mono ?_
 rintro e w1 ⟨A1,c1',rfl,hd1,hn1,hm1,hg1⟩
 have hC0:=hB0.grow hg1
 have hC1:=hB1.grow hg1
 have hxs:=hC1.lt
 have hk0:∀ u,(w1.setCell ⟨x,1,none⟩ u).cell? ⟨x,0,none⟩=some (.int .i64 sq):=fun u=>(hC0.put 1 u).cell 0
 have hk1:∀ u,(w1.setCell ⟨x,1,none⟩ u).cell? ⟨x,1,none⟩=some u:=fun u=>(hC0.put 1 u).cell 1
 have f1:=hC0.frozen 1
 have c10:=hC0.cell 1
 have hD:=(hC1.far (p:=⟨x,1,none⟩) (show x+1≠x by omega) (.slice A1 m m))
 have d0:=hD.cell 0
 have d1:=hD.cell 1
 have g0:=hD.frozen 0
 have g1:=hD.frozen 1
 go_wp2_with (go_at_call 137;refine (clip_any _ A1 m c1' hn1).mono ?_;rintro e w2 ⟨rfl,rfl⟩)
 have hE:=(hD.put 0 (.int .i64 sq)).put 1 (.slice A1 m m)
 have e0:=hE.cell 0
 have e1:=hE.cell 1
 have hj:Just (fun b=>b=x∨b=x+1) w1 (((w1.setCell ⟨x,1,none⟩ (.slice A1 m m)).setCell ⟨x+1,0,none⟩ (.int .i64 sq)).setCell ⟨x+1,1,none⟩ (.slice A1 m m)):=
  (((Just.of_grow (Grow.refl w1)).put (V:=fun b=>b=x∨b=x+1) (.inl rfl) 1 _).put (.inr rfl) 0 _).put (.inr rfl) 1 _
 have hgw:Grow w (((w1.setCell ⟨x,1,none⟩ (.slice A1 m m)).setCell ⟨x+1,0,none⟩ (.int .i64 sq)).setCell ⟨x+1,1,none⟩ (.slice A1 m m)):=
  Below.trans (hg0.trans hg1) (hj.below (B:=w.heap.size) (fun b hb=>by have:=HX.out;omega) (hg0.trans hg1).size)
 refine bodyPost_ret (v := .agg #[.int .i64 sq,.slice A1 m m]) (by simp[results,Tryz.results226,go_sem,e0,e1]) rfl ⟨A1,rfl,⟨?_,Nat.le_refl _,by dsimp only;omega,hsm⟩,hgw⟩
 refine In.mono (V:=New wa w1) (In.just hd1 hj fun b hb=>by have:=hb.1;omega) fun b hb=>⟨by have:=hb.1;have:=hg0.size;omega,by have:=hb.2;simpa [World.setCell] using this⟩
theorem clipb_any (w:World) (A:Option Addr) (n c:Nat) (hn:n≤c) :
 Calls Tryz.prog 227 #[.slice A n c] w fun e w'=>e=.returned (.slice A n n)∧w=w':=by
 go_enter Tryz.func227,Tryz.ntmps227
 go_wp2_with fail
 go_ret
 exact⟨rfl,rfl⟩
structure Bats (w:World) (V D:Nat→Prop) (A:Option Addr) (n:Nat) (q:List Bat):Prop where
 row:In w V 2 A n (q.flatMap Bat.cells)
 all:∀ b∈q,BatIn w D b
theorem Bats.len {w:World} {V D:Nat→Prop} {A:Option Addr} {n:Nat} {q:List Bat} (h:Bats w V D A n q):q.length=n:=by
 have:=h.row.1;rw[bats_len] at this;omega
theorem Bats.grow {w w':World} {V D:Nat→Prop} {A:Option Addr} {n:Nat} {q:List Bat} (h:Bats w V D A n q) (hg:Grow w w'):Bats w' V D A n q:=⟨h.row.grow hg,fun b hb=>(h.all b hb).grow hg⟩
theorem Bats.mono {w:World} {V D V' D':Nat→Prop} {A:Option Addr} {n:Nat} {q:List Bat} (h:Bats w V D A n q) (hV:∀ b,V b→V' b) (hD:∀ b,D b→D' b):Bats w V' D' A n q:=⟨h.row.mono hV,fun b hb=>(h.all b hb).mono hD⟩
theorem Bats.take {w:World} {V D:Nat→Prop} {A:Option Addr} {n k:Nat} {q:List Bat} (h:Bats w V D A n q) (hk:k≤n):Bats w V D A k (q.take k):=by
 refine⟨?_,fun b hb=>h.all b (List.mem_of_mem_take hb)⟩
 have:=h.row.take hk
 rwa [flat_take Bat.cells 2 bat_len q k] at this
theorem some_any (w:World) (V D:Nat→Prop) (A:Option Addr) (n c:Nat) (q:List Bat) (h:Bats w V D A n q) (hn:n≤1024) (hnc:n≤c) :
 Calls Tryz.prog 162 #[.slice A n c] w fun e w'=>∃ A' q',e=.returned (.slice A' n n)∧Bats w' (New w w') (New w w') A' n q'∧q'.map Bat.abs=q.map Bat.abs∧Grow w w':=by
 have hql:=h.len
 go_enter Tryz.func162,Tryz.ntmps162
 go_wp2_with fail
 go_loopw [3,8] (fun s i wr=>∃ (k:Nat) (q':List Bat) (R D':Nat→Prop),k≤n∧i=.int .i64 k∧Own wr R 159 2 s k (q'.flatMap Bat.cells)∧(∀ b∈q',BatIn wr D' b)∧q'.map Bat.abs=(q.take k).map Bat.abs∧(∀ b,R b→New w wr b∧¬ D' b)∧(∀ b,D' b→New w wr b)∧Grow w wr) (fun _ i _=>n-(intOf i).toNat)
 case atStart=>exact⟨0,[],fun _=>False,fun _=>False,by omega,rfl,Own.nil,by simp,by simp,fun _ h=>h.elim,fun _ h=>h.elim,Grow.refl _⟩
 case round=>
  obtain⟨k,q',R,D',hkn,rfl,hO,hin,habs,hR,hD,hg⟩:=hrel
  obtain⟨A1,c1,rfl,hI1,hnc1,hm1⟩:=hO.in_
  by_cases hk:k<n
  ·obtain⟨ad,hkq,rfl,hV,hB,e0,e1⟩:=(h.row.grow hg).rec_ (by omega) bat_len hk
   have hbin:=(h.all q[k] (List.getElem_mem hkq)).grow hg
   have hsn:q.take (k+1)=q.take k++[q[k]]:=List.take_succ_eq_append_getElem hkq
   have e0:=e0 _ rfl
   have e1:=e1 0 _ rfl
   have HS:=Lib.hid hsn
   clear hsn
   generalize q[k]=b at hbin e0 e1 HS
   obtain⟨sq,Ab,mb,cb,ds⟩:=b
   dsimp only[Bat.cells] at e0 e1
   have hga:Grow wr (wr.alloc (.cells #[.int .i64 sq,.slice Ab mb cb] 159)):=(Below.refl wr.heap.size wr).alloc (Nat.le_refl _) _
   go_wp2_with fail
   refine (own_any _ D ⟨sq,Ab,mb,cb,ds⟩ (hbin.grow hga)).mono ?_
   rintro e w1 ⟨A2,rfl,hb2,hg1⟩
   have hs1:=hg1.size
   simp only[alloc_size] at hs1
   have hgB:=(Below.refl w1.heap.size w1).alloc (Nat.le_refl _) (.cells #[.int .i64 sq,.slice A2 mb mb] 159)
   go_wp2_with (at_builtin;refine stay ?_)
   refine stay_out ?_
   have hsr:=hg.size
   have hRlt:∀ b,R b→b<wr.heap.size:=fun b hb=>(hR b hb).1.2
   refine wpList_own (V:=R) batchE _ rfl (.tmp 12) (.tmp 15) rfl (.slice A1 k c1) k (q'.flatMap Bat.cells) rfl (((hO.grow hRlt (hga.trans hg1)).grow (fun b hb=>by have:=hRlt b hb;omega) hgB)) (w1.heap.size+1) (some ⟨w1.heap.size,0,none⟩) 1 1 (Bat.cells ⟨sq,A2,mb,mb,ds⟩) rfl (reads_laid w1 _ 159 _ rfl _ rfl) (bat_one _) (by omega) ?_
   intro v2 w2 hO2 hj2
   have hs2:=hj2.size
   simp only[alloc_size] at hs2
   have hgj:Below w.heap.size w1 w2:=Below.trans (hgB.mono (by omega)) (hj2.below (B:=w.heap.size) (fun b hb=>(hR b hb).1.1) (by simp;omega))
   have hg2:Grow w w2:=Below.trans (hg.trans (hga.trans hg1)) hgj
   have hD2:∀ b:Bat,BatIn w1 D' b→BatIn w2 D' b:=fun b hb=>(hb.grow hgB).just hj2 fun x hx hr=>(hR x hr).2 hx
   have hN2:∀ b:Bat,BatIn w1 (New (wr.alloc (.cells #[.int .i64 sq,.slice Ab mb cb] 159)) w1) b→BatIn w2 (New (wr.alloc (.cells #[.int .i64 sq,.slice Ab mb cb] 159)) w1) b:=fun b hb=>(hb.grow hgB).just hj2 fun x hx hr=>by have:=hx.1;have:=hRlt x hr;simp at *;omega
   go_wp2_with fail
   go_roundw
   case rel=>
    refine⟨k+1,q'++[⟨sq,A2,mb,mb,ds⟩],Ext R (w1.alloc (.cells #[.int .i64 sq,.slice A2 mb mb] 159)) w2,fun b=>D' b∨New (wr.alloc (.cells #[.int .i64 sq,.slice Ab mb cb] 159)) w1 b,by omega,by go_num,?_,fun b hb=>?_,?_,fun b hb=>?_,fun b hb=>?_,hg2⟩
    ·rw[List.flatMap_append,List.flatMap_cons,List.flatMap_nil,List.append_nil];exact hO2
    ·rcases List.mem_append.1 hb with hb|hb
     ·exact (hD2 b ((hin b hb).grow (hga.trans hg1))).mono fun _ => .inl
     ·rw[List.mem_singleton.1 hb];exact (hN2 _ hb2).mono fun _ => .inr
    ·rw[List.map_append,habs,HS.out,List.map_append];rfl
    ·rcases hb with hb|⟨h1,h2⟩
     ·refine⟨⟨(hR b hb).1.1,by have:=hRlt b hb;omega⟩,fun hd=>?_⟩
      rcases hd with hd|hd
      ·exact (hR b hb).2 hd
      ·have:=hd.1;have:=hRlt b hb;simp at *;omega
     ·simp only[alloc_size] at h1
      refine⟨⟨by omega,h2⟩,fun hd=>?_⟩
      rcases hd with hd|hd
      ·have:=(hD b hd).2;omega
      ·have:=hd.2;omega
    ·rcases hb with hb|hb
     ·have:=hD b hb;exact⟨this.1,by have:=this.2;omega⟩
     ·have h1:=hb.1;have h2:=hb.2;simp only[alloc_size] at h1;exact⟨by omega,by omega⟩
   case measure=>simp[intOf];omega
  ·obtain rfl:k=n:=by omega
   go_wp2_with (go_at_call 227;refine (clipb_any _ A1 k c1 hnc1).mono ?_;rintro e w2 ⟨rfl,rfl⟩)
   go_ret
   refine⟨A1,q',rfl,⟨hI1.mono fun b hb=>(hR b hb).1,fun b hb=>(hin b hb).mono hD⟩,?_,hg⟩
   rw[habs,List.take_of_length_le (by omega)]
abbrev Ab:=Int×List Dl
def QueueAt (g:Nat) (l:List Ab) (last:Int):Thing:=fun w V=>
 V g∧∃ (v:Value) (q:List Bat) (R D:Nat→Prop),q.map Bat.abs=l∧q.length≤16∧Blk w g 253 #[v,.int .i64 last]∧Row w R 159 2 v q.length (q.flatMap Bat.cells)∧(∀ b∈q,BatIn w D b)∧(∀ b,R b→V b∧b≠g∧¬ D b)∧(∀ b,D b→V b∧b≠g)
theorem BatIn.keep {w w':World} {V:Nat→Prop} {b:Bat} (h:BatIn w V b) (hk:∀ b,V b→b<w.heap.size→w'.heap[b]?=w.heap[b]?):BatIn w' V b:=⟨In.keep h.ds hk,h.le,h.max,h.small⟩
theorem QueueAt.framed (g:Nat) (l:List Ab) (last:Int):Framed (QueueAt g l last):=fun w w' V h hk=>by
 obtain⟨h1,v,q,R,D,h2,h3,h4,h5,h6,h7,h8⟩:=h
 exact⟨h1,v,q,R,D,h2,h3,(hk g h1).trans h4,h5.keep fun b hb _=>hk b (h7 b hb).1,fun b hb=>(h6 b hb).keep fun x hx _=>hk x (h8 x hx).1,h7,h8⟩
theorem QueueAt.wide {g:Nat} {l:List Ab} {last:Int} {w:World} {V V':Nat→Prop} (h:QueueAt g l last w V) (hV:∀ b,V b→V' b):QueueAt g l last w V':=by
 obtain⟨h1,v,q,R,D,h2,h3,h4,h5,h6,h7,h8⟩:=h
 exact⟨hV g h1,v,q,R,D,h2,h3,h4,h5,h6,fun b hb=>⟨hV b (h7 b hb).1,(h7 b hb).2⟩,fun b hb=>⟨hV b (h8 b hb).1,(h8 b hb).2⟩⟩
theorem QueueAt.bats {g:Nat} {l:List Ab} {last:Int} {w:World} {V:Nat→Prop} (h:QueueAt g l last w V) :
 ∃ A c q,Hid (q.map Bat.abs=l)∧l.length≤16∧Blk w g 253 #[.slice A l.length c,.int .i64 last]∧Bats w V V A l.length q∧l.length≤c∧c≤maxLen:=by
 obtain⟨h1,v,q,R,D,rfl,h3,h4,h5,h6,h7,h8⟩:=h
 obtain⟨A,c,rfl,hI,hn,hm⟩:=h5.in_
 have e:(q.map Bat.abs).length=q.length:=List.length_map ..
 rw[e]
 exact⟨A,c,q,Lib.hid rfl,h3,h4,⟨hI.mono fun b hb=>(h7 b hb).1,fun b hb=>(h6 b hb).mono fun x hx=>(h8 x hx).1⟩,hn,hm⟩
theorem New_any (w:World) :
 Calls Tryz.prog 147 #[] w fun e w'=>e=.returned (.pointer (some ⟨w.heap.size,0,none⟩))∧QueueAt w.heap.size [] 0 w' (New w w')∧Grow w w':=by
 go_enter Tryz.func147,Tryz.ntmps147
 go_wp2_with fail
 go_ret
 exact⟨rfl,⟨⟨Nat.le_refl _,by simp⟩,_,[],fun _=>False,fun _=>False,rfl,by simp,Blk.made w _ _,Row.nil,by simp,fun _ h=>h.elim,fun _ h=>h.elim⟩,(Below.refl w.heap.size w).alloc (Nat.le_refl _) _⟩
theorem Len_any (w:World) (g:Nat) (l:List Ab) (last:Int) (V:Nat→Prop) (hQ:QueueAt g l last w V) :
 Calls Tryz.prog 159 #[.pointer (some ⟨g,0,none⟩)] w fun e w'=>e=.returned (.int .i64 (l.length:Int))∧w=w':=by
 obtain⟨A,c,q,HQ,h3,hB,hI,hn,hm⟩:=hQ.bats
 have c0:=hB.cell 0
 go_enter Tryz.func159,Tryz.ntmps159
 go_wp2_with fail
 go_ret
 exact⟨rfl,rfl⟩
theorem All_any (w:World) (g:Nat) (l:List Ab) (last:Int) (V:Nat→Prop) (hQ:QueueAt g l last w V) :
 Calls Tryz.prog 78 #[.pointer (some ⟨g,0,none⟩)] w fun e w'=>∃ A' q',e=.returned (.slice A' l.length l.length)∧Bats w' (New w w') (New w w') A' l.length q'∧q'.map Bat.abs=l∧Grow w w':=by
 obtain⟨A,c,q,HQ,h3,hB,hI,hn,hm⟩:=hQ.bats
 have c0:=hB.cell 0
 go_enter Tryz.func78,Tryz.ntmps78
 go_wp2_with (go_at_call 162;refine (some_any _ V V A _ c q hI (by omega) hn).mono ?_;rintro e w1 ⟨A1,q1,rfl,hI1,he1,hg1⟩)
 go_ret
 exact⟨A1,q1,rfl,hI1,he1.trans HQ.out,hg1⟩
theorem Flight_any (w:World) (g:Nat) (l:List Ab) (last:Int) (V:Nat→Prop) (hQ:QueueAt g l last w V) :
 Calls Tryz.prog 304 #[.pointer (some ⟨g,0,none⟩)] w fun e w'=>∃ A' q',e=.returned (.slice A' (min l.length 4) (min l.length 4))∧Bats w' (New w w') (New w w') A' (min l.length 4) q'∧q'.map Bat.abs=l.take 4∧Grow w w':=by
 obtain⟨A,c,q,HQ,h3,hB,hI,hn,hm⟩:=hQ.bats
 have e4:(q.take (min l.length 4)).map Bat.abs=l.take 4:=by
  rw[List.map_take,HQ.out]
  rcases Nat.lt_or_ge l.length 4 with h|h
  ·rw[List.take_of_length_le (i:=4) (by omega),List.take_of_length_le (by omega)]
  ·rw[show min l.length 4=4 by omega]
 obtain⟨M,HM⟩:∃ M:Nat,Hid (M=min l.length 4):=⟨_,rfl⟩
 rw[←HM.out] at e4 ⊢
 have HT:=Lib.hid e4
 clear e4
 have hM:M≤l.length:=by rw[HM.out];omega
 have hck:¬ c<M:=by omega
 have hc4:(l.length≤4∧M=l.length)∨(4<l.length∧M=4):=by have:=HM.out;omega
 go_enter Tryz.func304,Tryz.ntmps304
 go_wp2_with fail
 rcases hc4 with ⟨h4,hM4⟩|⟨h4,hM4⟩
 ·have HM4:=Lib.hid hM4
  clear hM4
  refine wp_region_flow 11 15 [] rfl rfl (by kernel_rfl) (by kernel_rfl) (by kernel_rfl) ?_ ?_
  ·intro x hx φ he
   cases hx
  intro ops' A' K' T hops hA' hK hT
  refine fl_mvN 3 (.pointer (some ⟨g,0,none⟩)) ?_
  refine fl_op1G 4 (.tmp 3) (.pointer (some ⟨g,0,none⟩)) (.pointer (some ⟨g,0,none⟩)) ?_
  refine fl_op1G 5 (.tmp 4) (.pointer (some ⟨g,0,none⟩)) (.pointer (some ⟨g,0,none⟩)) ?_
  refine fl_op1N 6 (.tmp 5) (.pointer (some ⟨g,0,none⟩)) (.slice A l.length c) (fun ρ h1 kk w1 (hg:Grow _ w1) hb hf=>by have c:=(hB.grow hg).cell 0;go_simp) ?_
  refine fl_mvN 7 (.pointer (some ⟨g,0,none⟩)) ?_
  refine fl_op1G 8 (.tmp 7) (.pointer (some ⟨g,0,none⟩)) (.pointer (some ⟨g,0,none⟩)) ?_
  refine fl_op1G 9 (.tmp 8) (.pointer (some ⟨g,0,none⟩)) (.pointer (some ⟨g,0,none⟩)) ?_
  refine fl_op1N 10 (.tmp 9) (.pointer (some ⟨g,0,none⟩)) (.slice A l.length c) (fun ρ h1 kk w1 (hg:Grow _ w1) hb hf=>by have c:=(hB.grow hg).cell 0;go_simp) ?_
  refine fl_op1G 11 (.tmp 10) (.slice A l.length c) (.int .i64 (l.length:Int)) ?_
  refine fl_op2N 12 (.tmp 11) (.const (.int .i64 4)) (.int .i64 (l.length:Int)) (.int .i64 4) (.int .i64 (M:Int)) (fun ρ h1 h2 kk w1 (hg:Grow _ w1) hb hf=>by have h5:=HM4.out;go_simp;omega) ?_
  refine fl_op2N 13 (.tmp 6) (.tmp 12) (.slice A l.length c) (.int .i64 (M:Int)) (.slice A M c) (fun ρ h1 h2 kk w1 (hg:Grow _ w1) hb hf=>by go_simp) ?_
  refine fl_end (fun _ _ w1 (hg:Grow _ w1) _ hfacts=>hT _ _ ?_)
  clear hops hA' hK hT
  simp only[putsL,Act.put,List.setIfInBounds_toArray,List.set_cons_zero,List.set_cons_succ,List.drop_succ_cons,List.drop_zero]
  go_wp2_with (go_at_call 162;refine (some_any _ V V A M c (q.take M) ((hI.grow hg).take hM) (by omega) (by omega)).mono ?_;rintro e w2 ⟨A1,q1,rfl,hI1,he1,hg1⟩)
  go_ret
  exact⟨A1,q1,rfl,hI1.mono (fun b hb=>⟨Nat.le_trans hg.size hb.1,hb.2⟩) (fun b hb=>⟨Nat.le_trans hg.size hb.1,hb.2⟩),he1.trans HT.out,hg.trans hg1⟩
 ·have HM4:=Lib.hid hM4
  clear hM4
  refine wp_region_flow 11 15 [] rfl rfl (by kernel_rfl) (by kernel_rfl) (by kernel_rfl) ?_ ?_
  ·intro x hx φ he
   cases hx
  intro ops' A' K' T hops hA' hK hT
  refine fl_mvN 3 (.pointer (some ⟨g,0,none⟩)) ?_
  refine fl_op1G 4 (.tmp 3) (.pointer (some ⟨g,0,none⟩)) (.pointer (some ⟨g,0,none⟩)) ?_
  refine fl_op1G 5 (.tmp 4) (.pointer (some ⟨g,0,none⟩)) (.pointer (some ⟨g,0,none⟩)) ?_
  refine fl_op1N 6 (.tmp 5) (.pointer (some ⟨g,0,none⟩)) (.slice A l.length c) (fun ρ h1 kk w1 (hg:Grow _ w1) hb hf=>by have c:=(hB.grow hg).cell 0;go_simp) ?_
  refine fl_mvN 7 (.pointer (some ⟨g,0,none⟩)) ?_
  refine fl_op1G 8 (.tmp 7) (.pointer (some ⟨g,0,none⟩)) (.pointer (some ⟨g,0,none⟩)) ?_
  refine fl_op1G 9 (.tmp 8) (.pointer (some ⟨g,0,none⟩)) (.pointer (some ⟨g,0,none⟩)) ?_
  refine fl_op1N 10 (.tmp 9) (.pointer (some ⟨g,0,none⟩)) (.slice A l.length c) (fun ρ h1 kk w1 (hg:Grow _ w1) hb hf=>by have c:=(hB.grow hg).cell 0;go_simp) ?_
  refine fl_op1G 11 (.tmp 10) (.slice A l.length c) (.int .i64 (l.length:Int)) ?_
  refine fl_op2N 12 (.tmp 11) (.const (.int .i64 4)) (.int .i64 (l.length:Int)) (.int .i64 4) (.int .i64 (M:Int)) (fun ρ h1 h2 kk w1 (hg:Grow _ w1) hb hf=>by have h5:=HM4.out;go_simp;omega) ?_
  refine fl_op2N 13 (.tmp 6) (.tmp 12) (.slice A l.length c) (.int .i64 (M:Int)) (.slice A M c) (fun ρ h1 h2 kk w1 (hg:Grow _ w1) hb hf=>by go_simp) ?_
  refine fl_end (fun _ _ w1 (hg:Grow _ w1) _ hfacts=>hT _ _ ?_)
  clear hops hA' hK hT
  simp only[putsL,Act.put,List.setIfInBounds_toArray,List.set_cons_zero,List.set_cons_succ,List.drop_succ_cons,List.drop_zero]
  go_wp2_with (go_at_call 162;refine (some_any _ V V A M c (q.take M) ((hI.grow hg).take hM) (by omega) (by omega)).mono ?_;rintro e w2 ⟨A1,q1,rfl,hI1,he1,hg1⟩)
  go_ret
  exact⟨A1,q1,rfl,hI1.mono (fun b hb=>⟨Nat.le_trans hg.size hb.1,hb.2⟩) (fun b hb=>⟨Nat.le_trans hg.size hb.1,hb.2⟩),he1.trans HT.out,hg.trans hg1⟩
end Go.Proofs.YtmijcbfgfkeodaaGreatDoor.Q
end
