/- En, En2, Acc, En3, En4. -/
import Derived.Test.YtmijcbfgfkeodaaGreatDoorHz05
import Derived.Test.YtmijcbfgfkeodaaGreatDoorHz07
set_option linter.all false
set_option maxRecDepth 100000
section
namespace Go.Proofs.YtmijcbfgfkeodaaGreatDoor
open Go.RowKit Go.Hop
structure En where
 (k ag sh sq ep:Int) (ds:List Dl) (se:ByteArray) (fr tg:Int)
def En.agg (e:En) (A:Option Addr) (c:Nat):Array Value:=#[.int .i64 e.k,.int .i64 e.ag,.int .i64 e.sh,.int .i64 e.sq,.int .i64 e.ep,.slice A e.ds.length c,.string e.se,.int .i64 e.fr,.int .i64 e.tg]
def DlOk (d:Dl):Prop:=1≤d.2∧d.2≤18446744073709551615∧L.parseE d.1=0∧d.1.size≤1000
def En.W (e:En):Prop:=e.k=1∧e.se=⟨#[]⟩∧(0≤e.ag∧e.ag<8)∧(0≤e.sh∧e.sh<4)∧(1≤e.sq∧e.sq≤9223372036854775807)∧(1≤e.ep∧e.ep≤9223372036854775807)∧(1≤e.ds.length∧e.ds.length≤8)∧∀ d∈e.ds,DlOk d
def En.R (e:En):Prop:=e.k=2∧e.ag=0∧e.sh=0∧e.sq=0∧e.ep=0∧e.ds=[]∧L.parseE e.se=0∧e.se.size≤1000
def En.Ok (e:En):Prop:=((0≤e.fr∧e.fr<8)∧0≤e.tg∧e.tg≤9223372036854775807)∧(e.W∨e.R)
theorem grow_alloc (w:World) (o:Obj):Grow w (w.alloc o):=(Below.refl _ w).alloc (Nat.le_refl _) o
theorem del_cells {w:World} {V:Nat→Prop} {A:Option Addr} {n:Nat} {l:List Dl} (h:DIn w V A n l) {k:Nat} (hk:k<n) :
 ∃ (ad:Addr) (hq:k<l.length),A=some ad∧(∀ w1,Grow w w1→w1.cell? (ad.add (k*2))=some (.string l[k].1))∧∀ w1,Grow w w1→w1.cell? ⟨(ad.add (k*2)).block,(ad.add (k*2)).off+1,none⟩=some (.int .u64 (l[k].2:Int)):=by
 obtain⟨ad,hq,e,_,hb,e0,e12⟩:=In.rec_ (cells:=dcell) h (by omega) dcell_len hk
 exact⟨ad,hq,e,fun w1 hg=>(hg.cell (by rw[block_add];exact hb)).trans (e0 _ rfl),fun w1 hg=>(hg.cell (p:=⟨(ad.add (k*2)).block,(ad.add (k*2)).off+1,none⟩) (show (ad.add (k*2)).block<_ by rw[block_add];exact hb)).trans (e12 0 _ rfl)⟩
theorem kind_w (w:World) (e:En) (A:Option Addr) (c:Nat) (h:e.W):Calls Tryz.prog 125 #[.agg (e.agg A c)] w fun e w'=>e=.returned (.bool true)∧Grow w w':=by
 obtain⟨k,ag,sh,sq,ep,ds,se,fr,tg⟩:=e
 obtain⟨hk,hs,_⟩:=h
 simp only at hk hs
 subst hk hs
 unfold En.agg
 dsimp only
 go_enter Tryz.func125,Tryz.ntmps125
 go_wp2_with fail
 go_ret
 exact⟨rfl,(Below.refl _ w).alloc (Nat.le_refl _) _⟩
theorem kind_r (w:World) (e:En) (A:Option Addr) (c:Nat) (h:e.R):Calls Tryz.prog 125 #[.agg (e.agg A c)] w fun e w'=>e=.returned (.bool true)∧Grow w w':=by
 obtain⟨k,ag,sh,sq,ep,ds,se,fr,tg⟩:=e
 obtain⟨hk,h1,h2,h3,h4,h5,_⟩:=h
 simp only at hk h1 h2 h3 h4 h5
 subst hk h1 h2 h3 h4 h5
 unfold En.agg
 dsimp only[List.length_nil]
 go_enter Tryz.func125,Tryz.ntmps125
 go_wp2_with fail
 go_ret
 exact⟨rfl,(Below.refl _ w).alloc (Nat.le_refl _) _⟩
theorem within_yes (w:World) (n m:Int) (h0:0≤n) (h1:n<m):Calls Tryz.prog 126 #[.int .i64 n,.int .i64 m] w fun e w'=>e=.returned (.bool true)∧w=w':=by
 have hd0:decide (0≤n)=true:=decide_eq_true h0
 have hd1:decide (n<m)=true:=decide_eq_true h1
 have hn:¬ n<0:=by omega
 go_enter Tryz.func126,Tryz.ntmps126
 go_wp2_with fail
 go_ret
 exact⟨ret_bool (by simp[h0,h1]),rfl⟩
theorem wr1_no (w:World) (s:ByteArray) (x:Nat) (hx:1≤x):Calls Tryz.prog 205 #[.agg #[.string s,.int .u64 (x:Int)]] w fun e w'=>e=.returned (.bool false)∧Grow w w':=by
 go_enter Tryz.func205,Tryz.ntmps205
 go_wp2_with fail
 go_ret
 exact⟨ret_bool (beq_eq_false_iff_ne.2 (by omega)),(Below.refl _ w).alloc (Nat.le_refl _) _⟩
theorem IndexF_wr1 (w:World) (V:Nat→Prop) (A:Option Addr) (n c:Nat) (l:List Dl) (h:DIn w V A n l) (hn:n≤1048576) (hl:∀ d∈l,1≤d.2) :
 Calls Tryz.prog 156 #[.slice A n c,.func (.func 205) #[] #[]] w fun e w'=>e=.returned (.int .i64 (-1))∧Grow w w':=by
 go_enter Tryz.func156,Tryz.ntmps156
 go_wp2_with fail
 go_loopw [8] (fun i wr=>∃ k:Nat,k≤n∧i=.int .i64 (k:Int)∧Grow w wr) (fun i _=>n-(intOf i).toNat)
 case atStart=>exact⟨0,by omega,rfl,Grow.refl _⟩
 case round=>
  obtain⟨k,hkn,rfl,hgr⟩:=hrel
  by_cases hk:k<n
  ·obtain⟨ad,hq,rfl,f0,f1⟩:=del_cells (In.grow h hgr) hk
   have e0:=f0 wr (Grow.refl _)
   have e1:=f1 wr (Grow.refl _)
   have hmem:l[k]∈l:=List.getElem_mem hq
   generalize l[k]=y at e0 e1 hmem
   obtain⟨s,x⟩:=y
   dsimp only at e0 e1
   have hc:=wr1_no wr s x (hl _ hmem)
   clear f0 f1
   go_wp2_with fail
   refine hc.mono ?_
   rintro e w2 ⟨rfl,hg2⟩
   go_wp2_with fail
   go_roundw
   case rel=>exact⟨k+1,by omega,by go_num,hgr.trans hg2⟩
   case measure=>simp[intOf];omega
  ·obtain rfl:k=n:=by omega
   go_wp2_with fail
   go_ret
   exact⟨rfl,hgr⟩
theorem ContainsF_wr1 (w:World) (V:Nat→Prop) (A:Option Addr) (n c:Nat) (l:List Dl) (h:DIn w V A n l) (hn:n≤1048576) (hl:∀ d∈l,1≤d.2) :
 Calls Tryz.prog 204 #[.slice A n c,.func (.func 205) #[] #[]] w fun e w'=>e=.returned (.bool false)∧Grow w w':=by
 have hI:=IndexF_wr1 w V A n c l h hn hl
 go_enter Tryz.func204,Tryz.ntmps204
 go_wp2_with fail
 refine hI.mono ?_
 rintro e w2 ⟨rfl,hg2⟩
 go_wp2_with fail
 go_ret
 exact⟨rfl,hg2⟩
theorem written_ok (w:World) (e:En) (V:Nat→Prop) (A:Option Addr) (c:Nat) (h:e.W) (hd:DIn w V A e.ds.length e.ds) :
 Calls Tryz.prog 127 #[.agg (e.agg A c)] w fun en w'=>en=.returned (.int .i64 0)∧Grow w w':=by
 obtain⟨k,ag,sh,sq,ep,ds,se,fr,tg⟩:=e
 obtain⟨hk,hs,ha,hsh,hsq,hep,hn,hall⟩:=h
 unfold En.agg
 dsimp only at hk hs ha hsh hsq hep hn hall hd ⊢
 subst hk hs
 obtain⟨n,HN⟩:∃ n,Hid (n=ds.length):=⟨_,rfl⟩
 rw[←HN.out] at hn hd ⊢
 have hB:=Blk.made w 32 #[.int .i64 1,.int .i64 ag,.int .i64 sh,.int .i64 sq,.int .i64 ep,.slice A n c,.string ⟨#[]⟩,.int .i64 fr,.int .i64 tg]
 have hg0:Grow w (w.alloc (.cells #[.int .i64 1,.int .i64 ag,.int .i64 sh,.int .i64 sq,.int .i64 ep,.slice A n c,.string ⟨#[]⟩,.int .i64 fr,.int .i64 tg] 32)):=(Below.refl _ w).alloc (Nat.le_refl _) _
 obtain⟨x,HX⟩:∃ x:Nat,Hid (x=w.heap.size):=⟨_,rfl⟩
 obtain⟨wa,HA⟩:∃ wa:World,Hid (wa=w.alloc (.cells #[.int .i64 1,.int .i64 ag,.int .i64 sh,.int .i64 sq,.int .i64 ep,.slice A n c,.string ⟨#[]⟩,.int .i64 fr,.int .i64 tg] 32)):=⟨_,rfl⟩
 rw[←HA.out] at hB hg0
 rw[←HX.out] at hB
 have c1:=hB.cell 1
 have c2:=hB.cell 2
 have c3:=hB.cell 3
 have c4:=hB.cell 4
 have c5:=hB.cell 5
 have hw1:=within_yes wa ag 8 ha.1 ha.2
 have hw2:=within_yes wa sh 4 hsh.1 hsh.2
 have hda:=In.grow hd hg0
 have hC:=ContainsF_wr1 wa V A n c ds hda (by omega) (fun d hd=>(hall d hd).1)
 have n1:decide (sq<1)=false:=decide_eq_false (by omega)
 have n2:decide (ep<1)=false:=decide_eq_false (by omega)
 have n3:decide ((8:Int)<(n:Int))=false:=decide_eq_false (by omega)
 have n4:((n:Int) == 0)=false:=beq_eq_false_iff_ne.2 (by omega)
 go_enter Tryz.func127,Tryz.ntmps127
 go_wp2_with fail
 rw[←HA.out,←HX.out]
 refine hw1.mono ?_
 rintro e w1 ⟨rfl,rfl⟩
 go_wp2_with fail
 refine hw2.mono ?_
 rintro e w1 ⟨rfl,rfl⟩
 go_wp2_with fail
 refine hC.mono ?_
 rintro e w1 ⟨rfl,hg1⟩
 have hdb:=In.grow hda hg1
 have c5':=(hB.grow hg1).cell 5
 have hgb:=hg0.trans hg1
 clear c1 c2 c3 c4 c5 hw1 hw2 hC
 go_wp2_with fail
 clear c5'
 go_loopw [49] (fun i wr=>∃ k:Nat,k≤n∧i=.int .i64 (k:Int)∧Grow w1 wr) (fun i _=>n-(intOf i).toNat)
 case atStart=>exact⟨0,by omega,rfl,Grow.refl _⟩
 case round=>
  obtain⟨k,hkn,rfl,hgr⟩:=hrel
  by_cases hk:k<n
  ·obtain⟨ad,hq,rfl,f0,f1⟩:=del_cells (In.grow hdb hgr) hk
   have e0:=f0 wr (Grow.refl _)
   have e1:=f1 wr (Grow.refl _)
   have hmem:=hall _ (List.getElem_mem hq)
   generalize ds[k]=y at e0 e1 hmem
   obtain⟨s,x⟩:=y
   dsimp only[DlOk] at e0 e1 hmem
   obtain⟨_,_,hp0,hsz⟩:=hmem
   have hP:=L.Parse_any ((wr.alloc (.cells #[.string s,.int .u64 (x:Int)] 29))) s (by omega)
   rw[hp0] at hP
   clear f0 f1
   go_wp2_with fail
   refine hP.mono ?_
   rintro e w2 ⟨Ap,cp,rfl,_,_,hg2⟩
   have hg3:Grow wr w2:=(grow_alloc wr _).trans hg2
   go_wp2_with fail
   go_roundw
   case rel=>exact⟨k+1,by omega,by go_num,hgr.trans hg3⟩
   case measure=>simp[intOf];omega
  ·obtain rfl:k=n:=by omega
   go_wp2_with fail
   go_ret
   exact⟨rfl,hgb.trans hgr⟩
theorem Right_ok (w:World) (e:En) (V:Nat→Prop) (A:Option Addr) (c:Nat) (h:e.Ok) (hd:DIn w V A e.ds.length e.ds) :
 Calls Tryz.prog 51 #[.agg (e.agg A c)] w fun en w'=>en=.returned (.int .i64 0)∧Grow w w':=by
 obtain⟨⟨hfr,htg⟩,hk⟩:=h
 have hg0:Grow w (w.alloc (.cells (e.agg A c) 32)):=(Below.refl _ w).alloc (Nat.le_refl _) _
 have hB:=Blk.made w 32 (e.agg A c)
 obtain⟨x,HX⟩:∃ x:Nat,Hid (x=w.heap.size):=⟨_,rfl⟩
 obtain⟨wa,HA⟩:∃ wa:World,Hid (wa=w.alloc (.cells (e.agg A c) 32)):=⟨_,rfl⟩
 rw[←HA.out] at hB hg0
 rw[←HX.out] at hB
 have hK:Calls Tryz.prog 125 #[.agg (e.agg A c)] wa fun e w'=>e=.returned (.bool true)∧Grow wa w':=hk.elim (kind_w wa e A c) (kind_r wa e A c)
 have hWr:=fun (h:e.W) (w1:World) (hg:Grow wa w1)=>written_ok w1 e V A c h (In.grow hd (hg0.trans hg))
 have hn3:¬ e.tg<0:=by omega
 rcases hk with hk|hk
 ·have hWr:=hWr hk
  have hk1:=hk.1
  have hk2:=hk.2.1
  clear hk
  obtain⟨k,ag,sh,sq,ep,ds,se,fr,tg⟩:=e
  unfold En.agg at *
  dsimp only at *
  subst hk1 hk2
  go_enter Tryz.func51,Tryz.ntmps51
  go_wp2_with fail
  rw[←HA.out,←HX.out]
  refine hK.mono ?_
  rintro e w1 ⟨rfl,hg1⟩
  have hB1:=hB.grow hg1
  have b0:=hB1.cell 0
  have b1:=hB1.cell 1
  have b2:=hB1.cell 2
  have b3:=hB1.cell 3
  have b4:=hB1.cell 4
  have b5:=hB1.cell 5
  have b6:=hB1.cell 6
  have b7:=hB1.cell 7
  have b8:=hB1.cell 8
  have hWr:=hWr w1 hg1
  have hw1:=within_yes w1 fr 8 hfr.1 hfr.2
  go_wp2_with fail
  refine hw1.mono ?_
  rintro e w2 ⟨rfl,rfl⟩
  go_wp2_with fail
  refine hWr.mono ?_
  rintro e w2 ⟨rfl,hg2⟩
  go_wp2_with fail
  go_ret
  exact⟨rfl,hg0.trans (hg1.trans hg2)⟩
 ·obtain⟨hk1,hk2,hk3,hk4,hk5,hk6,hp0,hsz⟩:=hk
  clear hWr
  obtain⟨k,ag,sh,sq,ep,ds,se,fr,tg⟩:=e
  unfold En.agg at *
  dsimp only at *
  subst hk1 hk2 hk3 hk4 hk5 hk6
  dsimp only[List.length_nil] at *
  go_enter Tryz.func51,Tryz.ntmps51
  go_wp2_with fail
  rw[←HA.out,←HX.out]
  refine hK.mono ?_
  rintro e w1 ⟨rfl,hg1⟩
  have hB1:=hB.grow hg1
  have b0:=hB1.cell 0
  have b4:=hB1.cell 6
  have b7:=hB1.cell 7
  have b8:=hB1.cell 8
  have hw1:=within_yes w1 fr 8 hfr.1 hfr.2
  have hP:=L.Parse_any w1 se (by omega)
  rw[hp0] at hP
  go_wp2_with fail
  refine hw1.mono ?_
  rintro e w2 ⟨rfl,rfl⟩
  go_wp2_with fail
  refine hP.mono ?_
  rintro e w2 ⟨Ap,cp,rfl,_,_,hg2⟩
  go_wp2_with fail
  go_ret
  exact⟨rfl,hg0.trans (hg1.trans hg2)⟩
end Go.Proofs.YtmijcbfgfkeodaaGreatDoor
end
section
namespace Go.Hop
open Go.RowKit
section
variable {α:Type} (e size:Nat) (cells:α→List Value) (good:World→(Nat→Prop)→α→Prop)
def GoodMono:Prop:=∀ (w:World) (D D':Nat→Prop) (a:α),good w D a→(∀ b,D b→D' b)→good w D' a
def Acc (w0:World) (v:Value) (q:List α) (w:World):Prop:=
 ∃ R D:Nat→Prop,Own w R e size v q.length (q.flatMap cells)∧(∀ b∈q,good w D b)∧(∀ b,R b→New w0 w b∧¬ D b)∧(∀ b,D b→New w0 w b)∧Grow w0 w
variable {e size cells good} {w0 w w1 w':World} {v:Value} {q:List α}
theorem Acc.nil (w0:World):Acc e size cells good w0 (.slice none 0 0) [] w0:=⟨fun _=>False,fun _=>False,Own.nil,by simp,fun _ h=>h.elim,fun _ h=>h.elim,Grow.refl _⟩
theorem Acc.base (h:Acc e size cells good w0 v q w):Grow w0 w:=by
 obtain⟨_,_,_,_,_,_,h⟩:=h;exact h
theorem Acc.slice (h:Acc e size cells good w0 v q w):∃ A c,v=.slice A q.length c:=by
 obtain⟨R,D,h1,_⟩:=h
 obtain⟨A,c,h1,_⟩:=h1.reads
 exact⟨A,c,h1⟩
theorem Acc.done (hM:GoodMono good) (h:Acc e size cells good w0 v q w):∃ A c,v=.slice A q.length c∧In w (New w0 w) size A q.length (q.flatMap cells)∧(∀ b∈q,good w (New w0 w) b)∧q.length≤c∧c≤maxLen∧Grow w0 w:=by
 obtain⟨R,D,h1,h2,h3,h4,h5⟩:=h
 obtain⟨A,c,rfl,h6,h7,h8⟩:=h1.in_
 exact⟨A,c,rfl,h6.mono fun b hb=>(h3 b hb).1,fun b hb=>hM _ _ _ _ (h2 b hb) h4,h7,h8,h5⟩
theorem run_acc {P:Program} {t bytes:Nat} {z:Value} (E:Elem P t e size bytes z) (hG:GoodJust good) (hM:GoodMono good) (hl:∀ a,(cells a).length=size) (hone:∀ a,∀ u∈cells a,u.oneCell'=true)
 (h:Acc e size cells good w0 v q w) (hg:Grow w w1) {b:α} (hb:good w1 (New w w1) b) (hbytes:(q.length+1)*bytes≤140737488355328) (ty:TypeId) (c:Nat) :
 ∃ v' w',(Builtin.append_ #[t,t] ty #[v,.slice (some ⟨w1.heap.size,0,none⟩) 1 c]).run P (w1.alloc (.cells (cells b).toArray e))=.ok v' w'∧Acc e size cells good w0 v' (q++[b]) w':=by
 have h':=h
 obtain⟨R,D,h1,h2,h3,h4,h5⟩:=h
 have hg2:Grow w1 (w1.alloc (.cells (cells b).toArray e)):=(Below.refl _ w1).alloc (Nat.le_refl _) _
 have hga:=hg.trans hg2
 have hrd:Reads (w1.alloc (.cells (cells b).toArray e)) (w1.heap.size+1) size (some ⟨w1.heap.size,0,none⟩) 1 (cells b):=by
  have:=reads_laid w1 (cells b).toArray e (0,0) (n:=1) (size:=size) (by simp[hl]) _ rfl
  simpa using this
 obtain⟨v',w',hrun,hO,hj⟩:=run_append_Own E _ ty v q.length (q.flatMap cells) (h1.grows hga) _ _ 1 c (cells b) hrd (hone b) hbytes
 have s1:=hg.size
 have s2:(w1.alloc (.cells (cells b).toArray e)).heap.size=w1.heap.size+1:=alloc_size _ _
 have s3:=hj.size
 have s0:=h5.size
 rw[s2] at s3
 have hRlt:∀ x,R x→x<w.heap.size:=fun x hx=>(h3 x hx).1.2
 refine⟨v',w',hrun,Ext R (w1.alloc (.cells (cells b).toArray e)) w',fun x=>D x∨New w w1 x,?_,fun a ha=>?_,fun x hx=>?_,fun x hx=>?_,?_⟩
 ·rw[List.flatMap_append,List.flatMap_cons,List.flatMap_nil,List.append_nil,List.length_append]
  exact hO
 ·rcases List.mem_append.1 ha with ha|ha
  ·exact hM _ D _ _ (hG _ _ _ R _ (hG _ _ _ _ _ (h2 a ha) (Just.of_grow (V:=fun _=>False) hga) (fun _ _ h=>h)) hj fun x hx hr=>(h3 x hr).2 hx) fun _ => .inl
  ·rw[List.mem_singleton.1 ha]
   exact hM _ (New w w1) _ _ (hG _ _ _ R _ (hG _ _ _ _ _ hb (Just.of_grow (V:=fun _=>False) hg2) (fun _ _ h=>h)) hj fun x hx hr=>by have:=hx.1;have:=hRlt x hr;omega) fun _ => .inr
 ·rcases hx with hx|⟨hx1,hx2⟩
  ·refine⟨⟨(h3 x hx).1.1,by have:=hRlt x hx;omega⟩,fun hd=>?_⟩
   rcases hd with hd|hd
   ·exact (h3 x hx).2 hd
   ·have:=hd.1;have:=hRlt x hx;omega
  ·rw[s2] at hx1
   refine⟨⟨by omega,hx2⟩,fun hd=>?_⟩
   rcases hd with hd|hd
   ·have:=(h4 x hd).2;omega
   ·have:=hd.2;omega
 ·rcases hx with hx|hx
  ·exact⟨(h4 x hx).1,by have:=(h4 x hx).2;omega⟩
  ·exact⟨by have:=hx.1;omega,by have:=hx.2;omega⟩
 ·exact Below.trans (h5.trans hga) (hj.below (B:=w0.heap.size) (fun x hx=>(h3 x hx).1.1) (by omega))
theorem wpList_acc {P:Program} {t bytes:Nat} {z:Value} (E:Elem P t e size bytes z) (hG:GoodJust good) (hM:GoodMono good) (hl:∀ a,(cells a).length=size) (hone:∀ a,∀ u∈cells a,u.oneCell'=true)
 {ops:Array Oper} {rest:List Oper} {o:Oper} {a:Act} {Q:Exit→Act→World→Prop} (hw:Region.wanted o (yielded ops a.tmps)=true) (s x:Operand)
 (ho:o.op=.call { callee := .builtin .append,args:=#[s,x],argTypes:=#[t,t] })
 (h:Acc e size cells good w0 v q w) (hg:Grow w w1) (b:α) (hb:good w1 (New w w1) b) (hbytes:(q.length+1)*bytes≤140737488355328)
 (hs:a.eval s=v) {c:Nat} (hx:a.eval x=.slice (some ⟨w1.heap.size,0,none⟩) 1 c)
 (k:∀ v' w',Acc e size cells good w0 v' (q++[b]) w'→wpList P ops Q rest (a.put o.dst v') w'):wpList P ops Q (o :: rest) a (w1.alloc (.cells (cells b).toArray e)):=by
 obtain⟨v',w',hrun,hA⟩:=run_acc E hG hM hl hone h hg hb hbytes o.type c
 unfold wpList
 rw[if_pos hw]
 refine .inl ?_
 unfold Oper.wp execOp
 simp only[ho,resolve,invoke,builtin,Sem.run_bind,Sem.run_pure,Result.andThen_ok,List.map_toArray,List.map_cons,List.map_nil,hs,hx,hrun]
 exact k v' w' hA
end
theorem Blk.all {w:World} {g:Nat} {t:TypeId} {cs:Array Value} (h:Blk w g t cs) (vs:List Value) (hl:vs.length=cs.size):Blk (w.setCells g 0 vs) g t vs.toArray:=by
 obtain⟨cur,h1,h2,h3⟩:=setCells_heap g t (0,0) vs 0 w cs h (by omega)
 have h4:cur=vs.toArray:=by
  apply Array.ext'
  rw[h3,List.take_zero,List.nil_append,Nat.zero_add,List.drop_of_length_le (by simp;omega),List.append_nil]
 rw[h4] at h1
 exact h1
theorem good_true {α:Type}:GoodJust (fun (_:World) (_:Nat→Prop) (_:α)=>True):=fun _ _ _ _ _ _ _ _=>trivial
theorem mono_true {α:Type}:GoodMono (fun (_:World) (_:Nat→Prop) (_:α)=>True):=fun _ _ _ _ _ _=>trivial
end Go.Hop
end
section
namespace Go.Proofs.YtmijcbfgfkeodaaGreatDoor
open Go.RowKit Go.Hop
structure El where
 (e:En) (A:Option Addr) (c:Nat)
def El.cells (x:El):List Value:=(x.e.agg x.A x.c).toList
def ElIn (w:World) (D:Nat→Prop) (x:El):Prop:=DIn w D x.A x.e.ds.length x.e.ds∧x.e.ds.length≤x.c∧x.c≤maxLen∧x.e.ds.length≤1048576
theorem el_len (x:El):x.cells.length=9:=rfl
theorem el_one (x:El):∀ u∈x.cells,u.oneCell'=true:=by
 intro u hu
 simp only[El.cells,En.agg,List.mem_cons,List.not_mem_nil,or_false] at hu
 rcases hu with rfl|rfl|rfl|rfl|rfl|rfl|rfl|rfl|rfl<;>rfl
theorem el_just:GoodJust ElIn:=fun _ _ _ _ _ h hj hd=>⟨In.just h.1 hj hd,h.2⟩
theorem el_mono:GoodMono ElIn:=fun _ _ _ _ h hd=>⟨In.mono h.1 hd,h.2⟩
theorem entry_info:(Tryz.prog.info? 32).map (fun i=>(i.zero,i.size,i.bytes))=some (some (.agg #[.int .i64 0,.int .i64 0,.int .i64 0,.int .i64 0,.int .i64 0,.slice none 0 0,.string ⟨#[]⟩,.int .i64 0,.int .i64 0]),9,96):=by kernel_rfl
theorem entryE:Elem Tryz.prog 39 32 9 96 (.agg #[.int .i64 0,.int .i64 0,.int .i64 0,.int .i64 0,.int .i64 0,.slice none 0 0,.string ⟨#[]⟩,.int .i64 0,.int .i64 0]):=⟨Tryz.underlying39,info_parts entry_info,rfl,by decide,by decide⟩
def Ens (w:World) (D:Nat→Prop) (A:Option Addr) (q:List El):Prop:=In w D 9 A q.length (q.flatMap El.cells)∧∀ x∈q,ElIn w D x
theorem Ens.grow {w w':World} {D:Nat→Prop} {A:Option Addr} {q:List El} (h:Ens w D A q) (hg:Grow w w'):Ens w' D A q:=⟨h.1.grow hg,fun x hx=>el_just _ _ _ _ _ (h.2 x hx) (Just.of_grow (V:=fun _=>False) hg) fun _ _ h=>h⟩
theorem Ens.just {w w':World} {D U:Nat→Prop} {A:Option Addr} {q:List El} (h:Ens w D A q) (hj:Just U w w') (hd:∀ b,D b→¬ U b):Ens w' D A q:=⟨h.1.just hj hd,fun x hx=>el_just _ _ _ _ _ (h.2 x hx) hj hd⟩
theorem Ens.mono {w:World} {D D':Nat→Prop} {A:Option Addr} {q:List El} (h:Ens w D A q) (hd:∀ b,D b→D' b):Ens w D' A q:=⟨h.1.mono hd,fun x hx=>el_mono _ _ _ _ (h.2 x hx) hd⟩
theorem Ens.nil {w:World} {D:Nat→Prop} {A:Option Addr}:Ens w D A []:=⟨In.nil,fun x hx=>absurd hx (by simp)⟩
def IsEns (l:List En) (w0:World) (u:Value) (w:World):Prop:=∃ (A:Option Addr) (c:Nat) (q:List El),u=.slice A q.length c∧Ens w (New w0 w) A q∧q.map El.e=l∧q.length≤c∧c≤maxLen
theorem Copy_any (w:World) (V:Nat→Prop) (x:El) (h:ElIn w V x) :
 Calls Tryz.prog 175 #[.agg (x.e.agg x.A x.c)] w fun en w'=>∃ A',en=.returned (.agg (x.e.agg A' x.e.ds.length))∧ElIn w' (New w w') ⟨x.e,A',x.e.ds.length⟩∧Grow w w':=by
 obtain⟨⟨k,ag,sh,sq,ep,ds,se,fr,tg⟩,A,c⟩:=x
 obtain⟨hd,hle,hmx,hsm⟩:=h
 unfold En.agg
 dsimp only at hd hle hmx hsm ⊢
 obtain⟨n,HN⟩:∃ n,Hid (n=ds.length):=⟨_,rfl⟩
 rw[←HN.out] at hd hle hsm ⊢
 have hg0:=(grow_alloc w (.cells #[.int .i64 k,.int .i64 ag,.int .i64 sh,.int .i64 sq,.int .i64 ep,.slice A n c,.string se,.int .i64 fr,.int .i64 tg] 32)).trans (grow_alloc _ (.cells #[.int .i64 0,.int .i64 0,.int .i64 0,.int .i64 0,.int .i64 0,.slice none 0 0,.string ⟨#[]⟩,.int .i64 0,.int .i64 0] 32))
 have hB0:=(Blk.made w 32 #[.int .i64 k,.int .i64 ag,.int .i64 sh,.int .i64 sq,.int .i64 ep,.slice A n c,.string se,.int .i64 fr,.int .i64 tg]).alloc (.cells #[.int .i64 0,.int .i64 0,.int .i64 0,.int .i64 0,.int .i64 0,.slice none 0 0,.string ⟨#[]⟩,.int .i64 0,.int .i64 0] 32)
 have hB1:=Blk.made (w.alloc (.cells #[.int .i64 k,.int .i64 ag,.int .i64 sh,.int .i64 sq,.int .i64 ep,.slice A n c,.string se,.int .i64 fr,.int .i64 tg] 32)) 32 #[.int .i64 0,.int .i64 0,.int .i64 0,.int .i64 0,.int .i64 0,.slice none 0 0,.string ⟨#[]⟩,.int .i64 0,.int .i64 0]
 obtain⟨x,HX⟩:∃ x:Nat,Hid (x=w.heap.size):=⟨_,rfl⟩
 have hx1:(w.alloc (.cells #[.int .i64 k,.int .i64 ag,.int .i64 sh,.int .i64 sq,.int .i64 ep,.slice A n c,.string se,.int .i64 fr,.int .i64 tg] 32)).heap.size=x+1:=by rw[HX.out];simp
 rw[hx1] at hB1
 rw[←HX.out] at hB0
 obtain⟨wa,HA⟩:∃ wa:World,Hid (wa=(w.alloc (.cells #[.int .i64 k,.int .i64 ag,.int .i64 sh,.int .i64 sq,.int .i64 ep,.slice A n c,.string se,.int .i64 fr,.int .i64 tg] 32)).alloc (.cells #[.int .i64 0,.int .i64 0,.int .i64 0,.int .i64 0,.int .i64 0,.slice none 0 0,.string ⟨#[]⟩,.int .i64 0,.int .i64 0] 32)):=⟨_,rfl⟩
 rw[←HA.out] at hB0 hB1 hg0
 have hsz:wa.heap.size=x+2:=by rw[HA.out,HX.out];simp
 go_enter Tryz.func175,Tryz.ntmps175
 go_wp2_with fail
 rw[←HA.out,←HX.out]
 refine (clone_any wa V A n c ds (In.grow hd hg0) (by omega)).mono ?_
 rintro e w1 ⟨A1,c1',rfl,hd1,hn1,hm1,hg1⟩
 go_wp2_with fail
 refine (clip_any w1 A1 n c1' hn1).mono ?_
 rintro e w2 ⟨rfl,rfl⟩
 have hC0:=hB0.grow hg1
 have hC1:=hB1.grow hg1
 have hP:=hC0.put 5 (.slice A1 n n)
 have hD:=hC1.far (p:=⟨x,5,none⟩) (show x+1≠x by omega) (.slice A1 n n)
 have f5:=hC0.frozen 5
 have d5:=hC0.cell 5
 have p0:=hP.cell 0
 have p1:=hP.cell 1
 have p2:=hP.cell 2
 have p3:=hP.cell 3
 have p4:=hP.cell 4
 have p5:=hP.cell 5
 have p6:=hP.cell 6
 have p7:=hP.cell 7
 have p8:=hP.cell 8
 have d0:=hD.cell 0
 have d1:=hD.cell 1
 have d2:=hD.cell 2
 have d3:=hD.cell 3
 have d4:=hD.cell 4
 have d5:=hD.cell 5
 have d6:=hD.cell 6
 have d7:=hD.cell 7
 have d8:=hD.cell 8
 have g0:=hD.frozen 0
 have g1:=hD.frozen 1
 have g2:=hD.frozen 2
 have g3:=hD.frozen 3
 have g4:=hD.frozen 4
 have g5:=hD.frozen 5
 have g6:=hD.frozen 6
 have g7:=hD.frozen 7
 have g8:=hD.frozen 8
 go_wp2_with fail
 change bodyPost _ _ _ _ _ (World.setCells (w1.setCell ⟨x,5,none⟩ (.slice A1 n n)) (x+1) 0 [.int .i64 k,.int .i64 ag,.int .i64 sh,.int .i64 sq,.int .i64 ep,.slice A1 n n,.string se,.int .i64 fr,.int .i64 tg])
 have hE:=Blk.all hD [.int .i64 k,.int .i64 ag,.int .i64 sh,.int .i64 sq,.int .i64 ep,.slice A1 n n,.string se,.int .i64 fr,.int .i64 tg] rfl
 have hF:∀ i,(World.setCells (w1.setCell ⟨x,5,none⟩ (.slice A1 n n)) (x+1) 0 [.int .i64 k,.int .i64 ag,.int .i64 sh,.int .i64 sq,.int .i64 ep,.slice A1 n n,.string se,.int .i64 fr,.int .i64 tg]).cell? ⟨(x+1),i,none⟩=#[.int .i64 k,.int .i64 ag,.int .i64 sh,.int .i64 sq,.int .i64 ep,.slice A1 n n,.string se,.int .i64 fr,.int .i64 tg][i]?:=hE.cell
 have e0:=hF 0
 have e1:=hF 1
 have e2:=hF 2
 have e3:=hF 3
 have e4:=hF 4
 have e5:=hF 5
 have e6:=hF 6
 have e7:=hF 7
 have e8:=hF 8
 refine bodyPost_ret (v := .agg #[.int .i64 k,.int .i64 ag,.int .i64 sh,.int .i64 sq,.int .i64 ep,.slice A1 n n,.string se,.int .i64 fr,.int .i64 tg]) (by simp[results,Tryz.results175,go_sem,e0,e1,e2,e3,e4,e5,e6,e7,e8]) rfl ?_
 have hj:Just (fun b=>b=x∨b=x+1) w1 ((w1.setCell ⟨x,5,none⟩ (.slice A1 n n)).setCells (x+1) 0 [.int .i64 k,.int .i64 ag,.int .i64 sh,.int .i64 sq,.int .i64 ep,.slice A1 n n,.string se,.int .i64 fr,.int .i64 tg]):=
  ((Just.of_grow (Grow.refl w1)).put (V:=fun b=>b=x∨b=x+1) (.inl rfl) 5 _).trans (Just.of_only (setCells_only _ _ _ _) (.inr rfl))
 have hgw:=Below.trans (hg0.trans hg1) (hj.below (B:=w.heap.size) (fun b hb=>by have:=HX.out;omega) (hg0.trans hg1).size)
 have hn:=HN.out
 subst hn
 refine⟨A1,rfl,⟨In.mono (V:=New wa w1) (In.just hd1 hj fun b hb=>by have:=hb.1;omega) fun b hb=>⟨by have:=hb.1;have:=hg0.size;omega,by have:=hb.2;simpa [setCells_size,setCell_size] using this⟩,Nat.le_refl _,(show ds.length≤maxLen by unfold maxLen;omega),hsm⟩,hgw⟩
theorem clip_ens (w:World) (A:Option Addr) (n c:Nat) (hn:n≤c) :
 Calls Tryz.prog 229 #[.slice A n c] w fun e w'=>e=.returned (.slice A n n)∧w=w':=by
 go_enter Tryz.func229,Tryz.ntmps229
 go_wp2_with fail
 go_ret
 exact⟨rfl,rfl⟩
theorem Copies_any (w:World) (V:Nat→Prop) (A:Option Addr) (c:Nat) (q:List El) (h:Ens w V A q) (hq:q.length≤1048576) :
 Calls Tryz.prog 168 #[.slice A q.length c] w fun e w'=>∃ u,e=.returned u∧IsEns (q.map El.e) w u w'∧(∃ A',u=.slice A' q.length q.length)∧Grow w w':=by
 go_enter Tryz.func168,Tryz.ntmps168
 go_wp2_with fail
 go_loopw [3,8] (fun s i wr=>∃ (k:Nat) (q':List El),k≤q.length∧i=.int .i64 k∧q'.length=k∧Acc 32 9 El.cells ElIn w s q' wr∧q'.map El.e=(q.take k).map El.e) (fun _ i _=>q.length-(intOf i).toNat)
 case atStart=>exact⟨0,[],by omega,rfl,rfl,Acc.nil w,by simp⟩
 case round=>
  obtain⟨k,q',hkn,rfl,hql,hA,habs⟩:=hrel
  have hg:=hA.base
  obtain⟨A1,c1,hsl⟩:=hA.slice
  rw[hql] at hsl
  subst hsl
  by_cases hk:k<q.length
  ·obtain⟨ad,hkq,rfl,hV,hB,e0,e1⟩:=(h.1.grow hg).rec_ (by omega) el_len hk
   have hbin:=(h.grow hg).2 q[k] (List.getElem_mem hkq)
   have hsn:q.take (k+1)=q.take k++[q[k]]:=List.take_succ_eq_append_getElem hkq
   have HS:=Lib.hid hsn
   clear hsn
   generalize q[k]=b at hbin e0 e1 HS
   have hcp:=fun w1 (hg1:Grow wr w1)=>Copy_any w1 V b (el_just _ _ _ _ _ hbin (Just.of_grow (V:=fun _=>False) hg1) fun _ _ h=>h)
   obtain⟨⟨bk,ag,sh,sq,ep,ds,se,fr,tg⟩,Ab,cb⟩:=b
   dsimp only[El.cells,En.agg] at e0 e1 hcp
   have e2:=e1 1 _ rfl
   have e3:=e1 2 _ rfl
   have e4:=e1 3 _ rfl
   have e5:=e1 4 _ rfl
   have e6:=e1 5 _ rfl
   have e7:=e1 6 _ rfl
   have e8:=e1 7 _ rfl
   have e1:=e1 0 _ rfl
   have e0:=e0 _ rfl
   have hga:=grow_alloc wr (.cells #[.int .i64 bk,.int .i64 ag,.int .i64 sh,.int .i64 sq,.int .i64 ep,.slice Ab ds.length cb,.string se,.int .i64 fr,.int .i64 tg] 32)
   have hcp:=hcp _ hga
   clear hbin
   go_wp2_with fail
   refine hcp.mono ?_
   rintro e w1 ⟨A2,rfl,hb2,hg1⟩
   go_wp2_with (at_builtin;refine stay ?_)
   refine stay_out ?_
   refine wpList_acc entryE el_just el_mono el_len el_one (by rfl) (.tmp 12) (.tmp 15) (by rfl) hA (hga.trans hg1) ⟨⟨bk,ag,sh,sq,ep,ds,se,fr,tg⟩,A2,ds.length⟩ (el_mono _ _ _ _ hb2 fun b hb=>⟨by have:=hb.1;simp at this;omega,hb.2⟩) (by omega) (by rfl) (by rfl) ?_
   intro v2 w2 hA2
   go_wp2_with fail
   go_roundw
   case rel=>exact⟨k+1,q'++[⟨⟨bk,ag,sh,sq,ep,ds,se,fr,tg⟩,A2,ds.length⟩],by omega,by go_num,by simp[hql],hA2,by rw[List.map_append,habs,HS.out,List.map_append];rfl⟩
   case measure=>simp[intOf];omega
  ·obtain rfl:k=q.length:=by omega
   have hD:=hA.done el_mono
   obtain⟨A3,c3,e3,h3,h4,h5,h6,h7⟩:=hD
   rw[hql] at e3 h5
   injection e3 with e3 e4 e5
   subst e3 e5
   go_wp2_with fail
   refine (clip_ens wr A1 q.length c1 h5).mono ?_
   rintro e w2 ⟨rfl,rfl⟩
   go_wp2_with fail
   go_ret
   exact⟨.slice A1 q.length q.length,rfl,⟨A1,q.length,q',by rw[hql],⟨h3,h4⟩,by rw[habs,List.take_length],by omega,by unfold maxLen;omega⟩,⟨A1,rfl⟩,h7⟩
end Go.Proofs.YtmijcbfgfkeodaaGreatDoor
end
section
namespace Go.Proofs.YtmijcbfgfkeodaaGreatDoor
open Go.RowKit Go.Hop Go.Proofs.YtmijcbfgfkeodaaGreatDoor.V
theorem vPut_is (w:World) (u:Value) (l:List UInt8) (m:Nat) (h:IsBytes l u w) (hl:l.length≤1099511627776) (hm:m<18446744073709551616) :
 Calls Tryz.prog 219 #[u,.int .u64 (m:Int)] w fun e w'=>∃ v,e=.returned v∧Grow w w'∧IsBytes (l++enc m) v w':=by
 obtain⟨A,n,c,rfl,hb,_⟩:=h
 exact (Put_any w A n c l hb (by rw[←hb.len];exact hl) m hm).mono fun _ _ ⟨v,he,hO,hg⟩=>⟨v,he,hg,Own.isBytes hO⟩
theorem vText_is (w:World) (u:Value) (l:List UInt8) (s:ByteArray) (h:IsBytes l u w) (hl:l.length≤1099511627776) (hs:s.size≤1099511627776) :
 Calls Tryz.prog 221 #[u,.string s] w fun e w'=>∃ v,e=.returned v∧Grow w w'∧IsBytes (l++enc s.size++s.data.toList) v w':=by
 obtain⟨A,n,c,rfl,hb,_⟩:=h
 exact (Text_any w A n c l hb (by rw[←hb.len];exact hl) s hs).mono fun _ _ ⟨v,he,hO,hg⟩=>⟨v,he,hg,Own.isBytes hO⟩
theorem isBytes_nil (w:World):IsBytes [] (.slice none 0 0) w:=⟨none,0,0,rfl,Reads.nil,Nat.le_refl _,Nat.zero_le _⟩
def dB (d:Dl):List UInt8:=enc d.1.size++d.1.data.toList++enc d.2
def dsB (l:List Dl):List UInt8:=l.flatMap dB
def Small (d:Dl):Prop:=d.1.size≤1000∧d.2<18446744073709551616
theorem dB_len {d:Dl} (h:Small d):(dB d).length≤1020:=by
 have h1:=enc_ten (n:=d.1.size) (by have:=h.1;omega)
 have h2:=enc_ten h.2
 have h3:d.1.data.toList.length=d.1.size:=rfl
 unfold dB
 rw[List.length_append,List.length_append,h3]
 have:=h.1
 omega
theorem dsB_len:∀ (l:List Dl),(∀ d∈l,Small d)→(dsB l).length≤l.length*1020
 | [],_=>by simp[dsB]
 | d :: l,h=>by
   have h1:=dsB_len l fun x hx=>h x (by simp[hx])
   have h2:=dB_len (h d (by simp))
   rw[show dsB (d :: l)=dB d++dsB l from rfl,List.length_append,List.length_cons]
   omega
theorem dsB_more (l:List Dl) (d:Dl):dsB (l++[d])=dsB l++dB d:=by simp[dsB]
theorem eDput_any (w:World) (u:Value) (l:List UInt8) (V:Nat→Prop) (A:Option Addr) (n c:Nat) (ds:List Dl) (hu:IsBytes l u w) (hl:l.length≤1048576) (hd:DIn w V A n ds) (hn:n≤1048576) (hs:∀ d∈ds,Small d) :
 Calls Tryz.prog 154 #[u,.slice A n c] w fun e w'=>∃ v,e=.returned v∧Grow w w'∧IsBytes (l++dsB ds) v w':=by
 have hln:=DIn.len hd
 have k221:∀ (vs:Array Value) (w:World),(callFunc 221 vs).run Tryz.prog w=.ok (.enter 221 vs) w:=fun vs w=>by go_simp
 have k219:∀ (vs:Array Value) (w:World),(callFunc 219 vs).run Tryz.prog w=.ok (.enter 219 vs) w:=fun vs w=>by go_simp
 go_enter Tryz.func154,Tryz.ntmps154
 go_wp2_with fail
 go_loopw [0,9] (fun v i wr=>∃ k:Nat,k≤n∧i=.int .i64 (k:Int)∧IsBytes (l++dsB (ds.take k)) v wr∧Grow w wr) (fun _ i _=>n-(intOf i).toNat)
 case atStart=>exact⟨0,by omega,rfl,by simpa [dsB] using hu,Grow.refl _⟩
 case round=>
  obtain⟨k,hkn,rfl,hB,hgr⟩:=hrel
  by_cases hk:k<n
  ·obtain⟨ad,hq,rfl,f0,f1⟩:=del_cells (In.grow hd hgr) hk
   have e0:=f0 wr (Grow.refl _)
   have e1:=f1 wr (Grow.refl _)
   have hsn:ds.take (k+1)=ds.take k++[ds[k]]:=List.take_succ_eq_append_getElem hq
   have hsm:=hs _ (List.getElem_mem hq)
   have HS:=Lib.hid hsn
   have hlb:=dsB_len (ds.take k) fun d hd=>hs d (List.mem_of_mem_take hd)
   rw[List.length_take,Nat.min_eq_left (by omega)] at hlb
   clear hsn f0 f1
   generalize ds[k]=y at e0 e1 hsm HS
   obtain⟨s,x⟩:=y
   dsimp only[Small] at e0 e1 hsm
   have HL:=Lib.hid hlb
   clear hlb
   obtain⟨L0,HL0⟩:∃ L0,Hid (L0=l++dsB (ds.take k)):=⟨_,rfl⟩
   rw[←HL0.out] at hB
   have hL0:L0.length≤1099511627776:=by rw[HL0.out,List.length_append];have:=HL.out;have:=Nat.mul_le_mul_right 1020 (show k≤1048576 by omega);omega
   obtain⟨b,HBb⟩:∃ b,Hid (b=wr.heap.size):=⟨_,rfl⟩
   obtain⟨wa,HA⟩:∃ wa:World,Hid (wa=wr.alloc (.cells #[.string s,.int .u64 (x:Int)] 29)):=⟨_,rfl⟩
   have hBk:=Blk.made wr 29 #[.string s,.int .u64 (x:Int)]
   have hga:=grow_alloc wr (.cells #[.string s,.int .u64 (x:Int)] 29)
   rw[←HA.out] at hBk hga
   rw[←HBb.out] at hBk
   have hBa:=hB.below hga
   go_wp2_with fail
   rw[←HA.out,←HBb.out]
   refine wp_region_flow 8 22 [(3,.inr (fun _=>IsBytes (L0++enc s.size++s.data.toList))),(6,.inr (fun _=>IsBytes (L0++enc s.size++s.data.toList++enc x)))] rfl rfl (by kernel_rfl) (by kernel_rfl) (by kernel_rfl) ?_ ?_
   ·intro x hx φ he
    simp only[List.mem_cons,List.not_mem_nil,or_false] at hx
    rcases hx with rfl|rfl<;>cases he
    all_goals first|exact lasts_quiet (lasting_bytes _)|fail
   intro ops' A' K' T hops hA' hK hT
   refine fl_mvN 13 (u0) ?_
   refine fl_op1G 14 (.tmp 6) (.pointer (some ⟨b,0,none⟩)) (.pointer (some ⟨b,0,none⟩)) ?_
   refine fl_op1N 15 (.tmp 14) (.pointer (some ⟨b,0,none⟩)) (.string s) (fun ρ h1 kk w1 (hg:Grow _ w1) hb hf=>by have c:=(hBk.grow hg).cell 0;go_simp) ?_
   refine fl_callAny 16 (by rfl) (by decide) (wanted_none (by rfl)) (fun _=>IsBytes (L0++enc s.size++s.data.toList)) (by rw[hK.out];rfl) 221 _ _ (by rfl) [u0,.string s] (by rfl) k221 (fun kk w1 (hg:Grow _ w1) hb hf=>calls_behindAny (φ:=fun _=>IsBytes (L0++enc s.size++s.data.toList)) (by rfl) (by exact vText_is w1 u0 L0 s (hBa.below hg) hL0 (by omega))) (fun v16=>?_)
   refine fl_op1G 17 (.tmp 6) (.pointer (some ⟨b,0,none⟩)) (.pointer (some ⟨b,1,none⟩)) ?_
   refine fl_op1N 18 (.tmp 17) (.pointer (some ⟨b,1,none⟩)) (.int .u64 (x:Int)) (fun ρ h1 kk w1 (hg:Grow _ w1) hb hf=>by have c:=(hBk.grow hg).cell 1;go_simp) ?_
   refine fl_callAny 19 (by rfl) (by decide) (wanted_none (by rfl)) (fun _=>IsBytes (L0++enc s.size++s.data.toList++enc x)) (by rw[hK.out];rfl) 219 _ _ (by rfl) [v16,.int .u64 (x:Int)] (by rfl) k219 (fun kk w1 (hg:Grow _ w1) hb hf=>calls_behindAny (φ:=fun _=>IsBytes (L0++enc s.size++s.data.toList++enc x)) (by rfl) (by exact vPut_is w1 v16 _ x (facts_take hf (by rw[hA'.out];kernel_rfl)) (by have:s.data.toList.length=s.size:=rfl;have:=enc_ten (n:=s.size) (by omega);simp only[List.length_append];have:=HL0.out;rw[HL0.out,List.length_append];have:=HL.out;have:=Nat.mul_le_mul_right 1020 (show k≤1048576 by omega);omega) hsm.2)) (fun v19=>?_)
   refine fl_mvN 0 (v19) ?_
   refine fl_end (fun _ _ w1 (hg:Grow _ w1) _ hfacts=>hT _ _ ?_)
   clear hops hA' hK hT
   simp only[putsL,Act.put,List.setIfInBounds_toArray,List.set_cons_zero,List.set_cons_succ,List.drop_succ_cons,List.drop_zero]
   have hE:=hfacts.1
   clear hfacts
   have hE2:IsBytes (l++dsB (ds.take (k+1))) v19 w1:=by
    rw[HS.out,dsB_more,←List.append_assoc,←HL0.out]
    show IsBytes (L0++(enc s.size++s.data.toList++enc x)) v19 w1
    rw[←List.append_assoc,←List.append_assoc]
    exact hE
   go_wp2_with fail
   go_roundw
   case rel=>exact⟨k+1,by omega,by go_num,hE2,hgr.trans (hga.trans hg)⟩
   case measure=>simp[intOf];omega
  ·obtain rfl:k=n:=by omega
   rw[List.take_of_length_le (by omega)] at hB
   go_wp2_with fail
   go_ret
   exact⟨_,rfl,hgr,hB⟩
end Go.Proofs.YtmijcbfgfkeodaaGreatDoor
end
