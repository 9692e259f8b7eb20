/- Splain, Scan, Dplain, Disk, Disk2, Crash, Dref, Dreads, Wal, Vo1, Vo2. -/
import Derived.Test.YtmijcbfgfkeodaaGreatDoorIz14
set_option linter.all false
set_option maxRecDepth 100000
open Go.Value renaming int → ae,slice → ai
open Go.IntKind renaming i64 → af,u64 → ah
open Go.Proofs.Tryz renaming prog → au
open List renaming setIfInBounds_toArray → aw,drop_succ_cons → ax,set_cons_zero → ay,set_cons_succ → az,drop_zero → aB,length_append → aD,not_mem_nil → aE,mem_cons → aF,take_succ_eq_append_getElem → aI,length_take → aK,length_cons → aL,append_assoc → aM,getElem_mem → aO,length_map → aP,nil_append → aR,flatMap_cons → aU,map_append → aX,mem_cons_of_mem → bb,flatMap_append → bd,append_nil → bf,map_cons → bg,length_drop → bh,mem_of_mem_take → bp,mem_cons_self → bq,prefix_append → br,flatMap_nil → bB
open Nat renaming lt_of_lt_of_le → aA,le_refl → aC,le_trans → aH,le_of_ble_eq_true → aQ,mul_le_mul_right → bm,lt_or_ge → bn,mul_one → bC,min_eq_left → bF
open Bool renaming and_eq_true → aS
section
namespace Go.Proofs.YtmijcbfgfkeodaaGreatDoor.V
open Go.RowKit Go.Hop
theorem Cv {l f:List UInt8} {k:Nat} (h:f <+: l.drop k):l.take (k+f.length)=l.take k++f:=by
 obtain⟨t,ht⟩:=h
 rw[List.take_add,←ht,List.take_left' rfl]
theorem jP (x:List UInt8):5≤(frame x).length:=by
 have:=m8 x.length
 rw[jt];omega
def mq (l:List UInt8):Prop:=∀ y:List UInt8,y.length≤65536→¬ frame y <+: l
def kJ (l:List UInt8) (xs:List (List UInt8)) (k:Nat):Prop:=xs.flatMap frame++l.drop k=l∧k=(xs.flatMap frame).length∧(∀ x∈xs,x.length≤65536)∧mq (l.drop k)
theorem tS:∀ (xs ys:List (List UInt8)) (r s:List UInt8),xs.flatMap frame++r=ys.flatMap frame++s→(∀ x∈xs,x.length≤65536)→(∀ x∈ys,x.length≤65536)→mq r→mq s→xs=ys
 | [],[],_,_,_,_,_,_,_=>rfl
 | [],y :: ys,r,s,h,_,hy,hr,_=>absurd (show frame y <+: r by
  rw[bB,aR,aU,aM] at h
  rw[h];exact br _ _) (hr y (hy y bq))
 | x :: xs,[],r,s,h,hx,_,_,hs=>absurd (show frame x <+: s by
     rw[bB,aR,aU,aM] at h
     rw[←h];exact br _ _) (hs x (hx x bq))
 | x :: xs,y :: ys,r,s,h,hx,hy,hr,hs=>by
   rw[aU,aU,aM,aM] at h
   have e:x=y:=qZ (r:=frame x++(xs.flatMap frame++r)) (br _ _) (by rw[h];exact br _ _)
   subst e
   rw[tS xs ys r s (List.append_cancel_left h) (fun z hz=>hx z (bb _ hz)) (fun z hz=>hy z (bb _ hz)) hr hs]
theorem kJ.one {l:List UInt8} {xs ys:List (List UInt8)} {k j:Nat} (h:kJ l xs k) (h':kJ l ys j):xs=ys∧k=j:=by
 have e:=tS xs ys _ _ (h.1.trans h'.1.symm) h.2.2.1 h'.2.2.1 h.2.2.2 h'.2.2.2
 subst e
 exact⟨rfl,by rw[h.2.1,h'.2.1]⟩
theorem wu (xs:List (List UInt8)):5*xs.length≤(xs.flatMap frame).length:=by
 induction xs with
 | nil=>simp
 | cons x xs ih=>
   have:=jP x
   rw[aU,aD,aL];omega
theorem tT {l x:List UInt8} {xs:List (List UInt8)} {k:Nat} (h:l.take k=xs.flatMap frame) (hx:frame x <+: l.drop k):l.take (k+(frame x).length)=(xs++[x]).flatMap frame:=by
 rw[Cv hx,h,bd,aU,bB,bf]
theorem tU {l:List UInt8} {xs:List (List UInt8)} {k:Nat} (h:l.take k=xs.flatMap frame) (hk:k≤l.length) (hx:∀ x∈xs,x.length≤65536) (hn:mq (l.drop k)):kJ l xs k:=
 ⟨by rw[←h,List.take_append_drop],by rw[←h,aK];omega,hx,hn⟩
structure lQ (w:World) (V:Nat→Prop) (b:Bx):Prop where
 bs:In w V 1 b.A b.m (gn b.bs)
 le:b.m≤b.c
 max:b.c≤maxLen
theorem lQ.mono {w:World} {V V':Nat→Prop} {b:Bx} (h:lQ w V b) (hV:∀ b,V b→V' b):lQ w V' b:=⟨In.mono h.bs hV,h.le,h.max⟩
theorem lQ.grow {w w':World} {V:Nat→Prop} {b:Bx} (h:lQ w V b) (hg:Grow w w'):lQ w' V b:=⟨In.grow h.bs hg,h.le,h.max⟩
theorem lQ.just {w w':World} {V U:Nat→Prop} {b:Bx} (h:lQ w V b) (hj:Just U w w') (hd:∀ b,V b→¬ U b):lQ w' V b:=⟨In.just h.bs hj hd,h.le,h.max⟩
structure Eu (w:World) (V D:Nat→Prop) (A:Option Addr) (n:Nat) (q:List Bx):Prop where
 row:In w V 1 A n (q.flatMap Bx.cells)
 all:∀ b∈q,lQ w D b
theorem Eu.grow {w w':World} {V D:Nat→Prop} {A:Option Addr} {n:Nat} {q:List Bx} (h:Eu w V D A n q) (hg:Grow w w'):Eu w' V D A n q:=⟨h.row.grow hg,fun b hb=>(h.all b hb).grow hg⟩
theorem Eu.mono {w:World} {V D V' D':Nat→Prop} {A:Option Addr} {n:Nat} {q:List Bx} (h:Eu w V D A n q) (hV:∀ b,V b→V' b) (hD:∀ b,D b→D' b):Eu w V' D' A n q:=⟨h.row.mono hV,fun b hb=>(h.all b hb).mono hD⟩
def Hy (xs:List (List UInt8)) (w0:World) (u:Value) (w:World):Prop:=∃ (A:Option Addr) (c:Nat) (q:List Bx),u=.slice A q.length c∧Eu w (New w0 w) (New w0 w) A q.length q∧q.map Bx.bs=xs∧q.length≤c∧c≤maxLen
theorem Cw:(Tryz.prog.info? 65).map (fun i=>(i.zero,i.size,i.bytes))=some (some (ai none 0 0),1,24):=by kernel_rfl
theorem QM:Elem au 135 65 1 24 (ai none 0 0):=⟨Tryz.underlying135,info_parts Cw,rfl,by decide,by decide⟩
theorem Cx (w:World) (A:Option Addr) (n c:Nat) (l:List UInt8) (hb:Bytes w w.heap.size A n l) (hnc:n≤c) (hcm:c≤maxLen) (hn:n≤1099511627776) :
 Calls au 145 #[.slice A n c] w fun e w'=>∃ (xs:List (List UInt8)) (k:Nat) (u:Value),kJ l xs k∧e=.returned (.tuple #[u,ae af (k:Int)])∧Hy xs w u w'∧Grow w w':=by
 have hlen:=hb.len
 go_enter Tryz.func145,Tryz.ntmps145
 go_wp2_with fail
 go_loopw [4,5] (fun s i wr=>∃ (k:Nat) (q:List Bx) (R D:Nat→Prop),k≤n∧i=ae af (k:Int)∧Own wr R 65 1 s q.length (q.flatMap Bx.cells)∧(∀ b∈q,lQ wr D b)∧(∀ x∈q.map Bx.bs,x.length≤65536)∧l.take k=(q.map Bx.bs).flatMap frame∧(∀ b,R b→New w wr b∧¬ D b)∧(∀ b,D b→New w wr b)∧Grow w wr) (fun _ i _=>n-(intOf i).toNat)
 case atStart=>exact⟨0,[],fun _=>False,fun _=>False,by omega,rfl,Own.nil,by simp,by simp,by simp,fun _ h=>h.elim,fun _ h=>h.elim,Grow.refl _⟩
 case round=>
  obtain⟨k,q,R,D,hkn,rfl,hO,hin,h6,hfr,hR,hD,hg⟩:=hrel
  obtain⟨A1,c1,rfl,hI1,Cy,hm1⟩:=hO.fw
  have hq5:5*q.length≤k:=by
   have h1:=wu (q.map Bx.bs)
   rw[←hfr,aK,aP] at h1;omega
  have hsr:=hg.size
  have hbr:Bytes wr wr.heap.size A n l:=Reads.more (Reads.below hb hg) hg.size
  have hR':=Reads.cut hbr (k:=k) (cap:=c) hkn hnc
  have hb':Bytes wr wr.heap.size (if c=k then A else A.map (·.add k)) (n-k) (l.drop k):=by
   simp only[bC] at hR'
   unfold Bytes;rw[ma,bC];exact hR'
  have hdone:∀ (w1:World),Grow wr w1→mq (l.drop k)→∃ (xs:List (List UInt8)) (k':Nat) (u:Value),kJ l xs k'∧Ending.returned (.tuple #[.slice A1 q.length c1,ae af (k:Int)])=.returned (.tuple #[u,ae af (k':Int)])∧Hy xs w u w1∧Grow w w1:=fun w1 hg1 hno=>
   ⟨q.map Bx.bs,k,_,tU hfr al h6 hno,rfl,⟨A1,c1,q,rfl,⟨(hI1.mono fun b hb=>(⟨(hR b hb).1.1,by have:=(hR b hb).1.2;have:=hg1.size;omega⟩:New w w1 b)).grow hg1,fun b hb=>((hin b hb).mono fun x hx=>(⟨(hD x hx).1,by have:=(hD x hx).2;have:=hg1.size;omega⟩:New w w1 x)).grow hg1⟩,rfl,Cy,hm1⟩,hg.trans hg1⟩
  by_cases hck:c=k
  ·rw[if_pos hck] at hb'
   have hnk:n=k:=by omega
   go_wp2_with fail
   go_at_call 101
   rw[show n-k=0 by omega] at hb'
   refine (mn _ _ 0 0 (l.drop k) hb' al al).mono ?_
   rintro e w1 ⟨x,k',ok,v,sc,rfl,fW,hg1⟩
   rcases sc with ⟨_,hx6,hpre,hk'⟩|⟨rfl,hno,rfl,rfl⟩
   ·exfalso
    have h1:=hpre.length_le
    have h2:=jP x
    rw[bh] at h1;omega
   ·go_wp2_with fail
    go_ret2
    exact hdone w1 hg1 hno
  ·rw[if_neg hck] at hb'
   go_wp2_with fail
   go_at_call 101
   refine (mn _ _ (n-k) (c-k) (l.drop k) hb' al al).mono ?_
   rintro e w1 ⟨x,k',ok,v,sc,rfl,fW,hg1⟩
   rcases sc with ⟨rfl,hx6,hpre,hk'⟩|⟨rfl,hno,rfl,rfl⟩
   ·have hpl:=hpre.length_le
    rw[bh] at hpl
    have h5:=jP x
    have HF:=Lib.hid (tT hfr hpre)
    obtain⟨A2,c2,rfl,hI2,Hw,hm2⟩:=fW.fw
    have hwk:IntKind.i64.wrap ((k:Int)+(k':Int))=(k:Int)+(k':Int):=by rw[IntKind.wrap_i64];omega
    have hs1:=hg1.size
    have hgB:=(Below.refl w1.heap.size w1).alloc (aC _) (.cells #[.slice A2 x.length c2] 65)
    have iF:∀ b,R b→b<wr.heap.size:=fun b hb=>(hR b hb).1.2
    go_wp2_with (at_builtin;refine stay ?_)
    refine bV ?_
    refine cR (V:=R) QM _ rfl (.tmp 21) (.tmp 23) rfl (.slice A1 q.length c1) q.length (q.flatMap Bx.cells) rfl (((hO.grow iF hg1).grow (fun b hb=>by have:=iF b hb;omega) hgB)) (w1.heap.size+1) (some ⟨w1.heap.size,0,none⟩) 1 1 (Bx.cells ⟨A2,x.length,c2,x⟩) rfl (df w1 _ 65 _ rfl _ rfl) (Hv _) al ?_
    intro v2 w2 hO2 hj2
    have hs2:=hj2.size
    simp only[di] at hs2
    have hgj:Below w.heap.size w1 w2:=Below.trans (hgB.mono al) (hj2.below (B:=w.heap.size) (fun b hb=>(hR b hb).1.1) (by simp;omega))
    have hg2:Grow w w2:=Below.trans (hg.trans hg1) hgj
    have hD2:∀ b:Bx,lQ w1 D b→lQ w2 D b:=fun b hb=>(hb.grow hgB).just hj2 fun x hx hr=>(hR x hr).2 hx
    have BR:∀ b:Bx,lQ w1 (New wr w1) b→lQ w2 (New wr w1) b:=fun b hb=>(hb.grow hgB).just hj2 fun x hx hr=>by have:=hx.1;have:=iF x hr;omega
    go_wp2_with fail
    go_roundw
    case rel=>
     refine⟨k+k',q++[⟨A2,x.length,c2,x⟩],Ext R (w1.alloc (.cells #[.slice A2 x.length c2] 65)) w2,fun b=>D b∨New wr w1 b,by omega,by go_num,?_,fun b hb=>?_,fun y hy=>?_,?_,fun b hb=>?_,fun b hb=>?_,hg2⟩
     ·rw[bd,aU,bB,bf,aD];exact hO2
     ·rcases List.mem_append.1 hb with hb|hb
      ·exact (hD2 b ((hin b hb).grow hg1)).mono fun _ => .inl
      ·rw[List.mem_singleton.1 hb];exact (BR ⟨A2,x.length,c2,x⟩ ⟨hI2,Hw,hm2⟩).mono fun _ => .inr
     ·rw[aX] at hy
      rcases List.mem_append.1 hy with hy|hy
      ·exact h6 y hy
      ·rw[List.mem_singleton.1 hy];exact hx6
     ·rw[aX,hk',HF.out];rfl
     ·rcases hb with hb|⟨h1,h2⟩
      ·refine⟨⟨(hR b hb).1.1,by have:=iF b hb;omega⟩,fun hd=>?_⟩
       rcases hd with hd|hd
       ·exact (hR b hb).2 hd
       ·have:=hd.1;have:=iF b hb;omega
      ·simp only[di] at h1
       refine⟨⟨by omega,h2⟩,fun hd=>?_⟩
       rcases hd with hd|hd
       ·have:=(hD b hd).2;omega
       ·have:=hd.2;omega
     ·rcases hb with hb|hb
      ·have:=hD b hb;exact⟨this.1,by have:=this.2;omega⟩
      ·have h1:=hb.1;have h2:=hb.2;exact⟨by omega,by omega⟩
    case measure=>simp[intOf];omega
   ·go_wp2_with fail
    go_ret2
    exact hdone w1 hg1 hno
def fits (l b:List UInt8):Bool:=decide (l.length+b.length≤1048576)
def tV (l b:List UInt8):Int:=if fits l b then 0 else 24
def Cz (l b:List UInt8):List UInt8:=if fits l b then l++b else l
def lE (l:List UInt8) (n:Int):Bool:=decide (0≤n) && decide (n≤(l.length:Int))
def EX (l:List UInt8) (n:Int):List UInt8:=if lE l n then l.take n.toNat else l
def Kv (l:List UInt8) (k:Nat) (n:Int):Nat:=if lE l n then n.toNat else k
def cT (t d:Nat) (l:List UInt8) (k:Nat):cg:=fun w V=>
 V d∧k≤l.length∧l.length≤1048576∧∃ v,ct w d t #[v,ae af (k:Int)]∧Own w (fun b=>V b∧b≠d) 5 1 v l.length (gn l)
theorem cT.framed (t d:Nat) (l:List UInt8) (k:Nat):Framed (cT t d l k):=fun w w' V h hk=>by
 obtain⟨h1,h2,h3,v,h4,h5⟩:=h
 exact⟨h1,h2,h3,v,(hk d h1).trans h4,h5.keep fun b hb=>hk b hb.1⟩
theorem yj {l b:List UInt8} (h:l.length+b.length≤1048576):fits l b=true:=by unfold fits;exact decide_eq_true h
theorem cT.wide {t d:Nat} {l:List UInt8} {k:Nat} {w:World} {V V':Nat→Prop} (h:cT t d l k w V) (hV:∀ b,V b→V' b):cT t d l k w V':=by
 obtain⟨h1,h2,h3,v,h4,h5⟩:=h
 exact⟨hV d h1,h2,h3,v,h4,h5.mono fun b hb=>⟨hV b hb.1,hb.2⟩⟩
theorem Hz {l:List UInt8} {n:Int} (h:lE l n=true):∃ m:Nat,n=(m:Int)∧m≤l.length:=by
 unfold lE at h
 rw[aS,decide_eq_true_eq,decide_eq_true_eq] at h
 exact⟨n.toNat,by omega,by omega⟩
theorem CB (w:World) (d:Nat) (l:List UInt8) (k:Nat) :
 Turns au 218 #[((d:Nat):Value)] (fun e=>e=.returned (.tuple #[])) (cT 133 d l k) (cT 133 d l l.length) w:=by
 intro V ⟨hd,hk,hl,v,hB,hO⟩ hV
 obtain⟨A,c,rfl,hR,hn,hm⟩:=hO.reads
 have c0:=hB.cell 0
 have f0:=hB.frozen 1
 have c1:=hB.cell 1
 go_enter Tryz.func218,Tryz.ntmps218
 go_wp2_with fail
 go_end0
 exact⟨rfl,⟨.inl hd,aC _,hl,_,hB.put 1 _,(hO.put (fun h=>h.2 rfl) 1 _).mono fun b hb=>⟨.inl hb.1,hb.2⟩⟩,(Just.bJ (Grow.refl w)).put hd 1 _⟩
theorem HU (w:World) (d:Nat) (l:List UInt8) (k:Nat) (n:Int) (hn:-9223372036854775808≤n∧n≤9223372036854775807) (hc:lE l n=false) :
 Turns au 80 #[((d:Nat):Value),ae af n] (fun e=>e=.returned (.bool false)) (cT 133 d l k) (cT 133 d l k) w:=by
 intro V hD hV
 have hD':=hD
 obtain⟨hd,hk,hl,v,hB,hO⟩:=hD
 obtain⟨A,c,rfl,hR,hnc,hm⟩:=hO.reads
 have c0:=hB.cell 0
 unfold lE at hc
 rw[Bool.and_eq_false_iff,decide_eq_false_iff_not,decide_eq_false_iff_not] at hc
 by_cases h0:n<0
 ·go_enter Tryz.func80,Tryz.ntmps80
  go_wp2_with fail
  go_ret
  exact⟨rfl,cT.wide hD' (fun _ => .inl),Just.bJ (Grow.refl w)⟩
 ·have h1:(l.length:Int)<n:=by omega
  go_enter Tryz.func80,Tryz.ntmps80
  go_wp2_with fail
  go_ret
  exact⟨rfl,cT.wide hD' (fun _ => .inl),Just.bJ (Grow.refl w)⟩
theorem yk (w:World) (d:Nat) (l:List UInt8) (k m:Nat) (hm:m≤l.length) :
 Turns au 80 #[((d:Nat):Value),ae af (m:Int)] (fun e=>e=.returned (.bool true)) (cT 133 d l k) (cT 133 d (l.take m) m) w:=by
 intro V ⟨hd,hk,hl,v,hB,hO⟩ hV
 obtain⟨A,c,rfl,hR,hnc,hc⟩:=hO.reads
 have hO2:=hO.cut hm
 have c0:=hB.cell 0
 have f0:=hB.frozen 0
 have f1:=hB.frozen 1
 have c1:=hB.cell 1
 have hlm:(l.take m).length=m:=by rw[aK];omega
 go_enter Tryz.func80,Tryz.ntmps80
 go_wp2_with (go_at_call 163;refine (iC _ A m c al).mono ?_;rintro e w1 ⟨rfl,rfl⟩)
 go_ret
 have hB2:=(hB.put 0 (.slice A m m)).put 1 (ae af (m:Int))
 refine⟨rfl,⟨.inl hd,by omega,by omega,_,hB2,?_⟩,((Just.bJ (Grow.refl w)).put hd 0 _).put hd 1 _⟩
 rw[hlm,oZ]
 exact ((hO2.put (fun h=>h.2 rfl) 0 _).put (fun h=>h.2 rfl) 1 _).mono fun b hb=>⟨.inl hb.1,hb.2⟩
theorem zq (w:World) (d:Nat) (l:List UInt8) (k:Nat) (A:Option Addr) (n c:Nat) (b:List UInt8) (hb:Bytes w w.heap.size A n b) (hf:fits l b=false) :
 Turns au 153 #[((d:Nat):Value),.slice A n c] (fun e=>e=.returned (ae af 24)) (cT 133 d l k) (cT 133 d l k) w:=by
 intro V hD hV
 have hD':=hD
 obtain⟨hd,hk,hl,v,hB,hO⟩:=hD
 obtain⟨A1,c1,rfl,hR,hnc,hm⟩:=hO.reads
 have c0:=hB.cell 0
 have hbl:=hb.len
 have hf':¬ l.length+n≤1048576:=by rw[←hbl];exact of_decide_eq_false hf
 go_enter Tryz.func153,Tryz.ntmps153
 go_wp2_with fail
 go_ret
 exact⟨rfl,cT.wide hD' (fun _ => .inl),Just.bJ (Grow.refl w)⟩
theorem wv (w:World) (d:Nat) (l:List UInt8) (k:Nat) (A:Option Addr) (n c:Nat) (b:List UInt8) (hb:Bytes w w.heap.size A n b) (hf:fits l b=true) :
 Turns au 153 #[((d:Nat):Value),.slice A n c] (fun e=>e=.returned (ae af 0)) (cT 133 d l k) (cT 133 d (l++b) k) w:=by
 intro V ⟨hd,hk,hl,v,hB,hO⟩ hV
 obtain⟨A1,c1,rfl,hR,hnc,hm⟩:=hO.reads
 have c0:=hB.cell 0
 have hbl:=hb.len
 have hf':l.length+n≤1048576:=by rw[←hbl];exact of_decide_eq_true hf
 go_enter Tryz.func153,Tryz.ntmps153
 go_wp2_with (at_builtin;refine stay ?_)
 refine bV ?_
 refine cR z8 _ rfl (.tmp 18) (.tmp 19) rfl (.slice A1 l.length c1) l.length (gn l) rfl hO w.heap.size A n c (gn b) rfl hb gR al ?_
 intro v1 w1 fW hj1
 have hB1:=hj1.blk hB (fun h=>h.2 rfl)
 obtain⟨A2,c2,rfl,hR2,_,_⟩:=fW.reads
 have f1:=hB1.frozen 0
 have c1:=hB1.cell 0
 go_wp2_with fail
 go_ret
 have hdl:=hB.lt
 rw[←ff] at fW
 have hll:(l++b).length=l.length+n:=by rw[aD,hbl]
 refine⟨rfl,⟨.inl hd,by omega,by omega,_,hB1.put 0 _,?_⟩,(hj1.imp fun k hk=>hk.1).put hd 0 _⟩
 rw[hll]
 have hne:¬ Ext (fun b=>V b∧b≠d) w w1 d:=fun h=>by
  rcases h with h|h
  ·exact h.2 rfl
  ·have:=h.1;omega
 exact (fW.put hne 0 _).mono fun b hb=>⟨by rcases hb with h|h;exact .inl h.1;exact .inr ⟨h.1,by simpa [World.setCell] using h.2⟩,fun e=>by subst e;exact hne hb⟩
theorem og (w:World) (d:Nat) (l:List UInt8) (k:Nat) (n:Int) (hn:-9223372036854775808≤n∧n≤9223372036854775807) :
 Turns au 80 #[((d:Nat):Value),ae af n] (fun e=>e=.returned (.bool (lE l n))) (cT 133 d l k) (cT 133 d (EX l n) (Kv l k n)) w:=by
 unfold EX Kv
 cases hc:lE l n with
 | false=>exact HU w d l k n hn hc
 | true=>
   obtain⟨m,rfl,hm⟩:=Hz hc
   exact yk w d l k m hm
theorem pk (w:World) (d:Nat) (l:List UInt8) (k:Nat) (A:Option Addr) (n c:Nat) (b:List UInt8) (hb:Bytes w w.heap.size A n b) :
 Turns au 153 #[((d:Nat):Value),.slice A n c] (fun e=>e=.returned (ae af (tV l b))) (cT 133 d l k) (cT 133 d (Cz l b) k) w:=by
 unfold tV Cz
 cases hc:fits l b with
 | false=>exact zq w d l k A n c b hb hc
 | true=>exact wv w d l k A n c b hb hc
theorem sf (w:World) (d:Nat) (l:List UInt8) (k:Nat) (V:Nat→Prop) (hD:cT 133 d l k w V) :
 Calls au 146 #[((d:Nat):Value)] w fun e w'=>∃ v,e=.returned v∧Own w' (New w w') 5 1 v l.length (gn l)∧Grow w w':=by
 obtain⟨hd,hk,hl,v,hB,hO⟩:=hD
 obtain⟨A1,c1,rfl,hR,hnc,hm⟩:=hO.reads
 have c0:=hB.cell 0
 go_enter Tryz.func146,Tryz.ntmps146
 go_wp2_with (go_at_call 180;refine (fF _ A1 l.length c1 l hR al).mono ?_;rintro e w1 ⟨v1,rfl,fW,hg1⟩)
 go_ret
 exact⟨v1,rfl,fW,hg1⟩
theorem j3 (w:World) :
 Calls au 22 #[] w fun e w'=>e=.returned (.pointer (some ⟨w.heap.size,0,none⟩))∧cT 133 w.heap.size [] 0 w' (New w w')∧Grow w w':=by
 go_enter Tryz.func22,Tryz.ntmps22
 go_wp2_with fail
 go_ret
 exact⟨rfl,⟨⟨aC _,by simp⟩,aC _,by simp,_,ct.made w _ _,Own.nil⟩,(Below.refl w.heap.size w).alloc (aC _) _⟩
theorem Eu.just {w w':World} {V D U:Nat→Prop} {A:Option Addr} {n:Nat} {q:List Bx} (h:Eu w V D A n q) (hj:Just U w w') (hV:∀ b,V b→¬ U b) (hD:∀ b,D b→¬ U b):Eu w' V D A n q:=⟨h.row.just hj hV,fun b hb=>(h.all b hb).just hj hD⟩
def cU (x d:Nat) (n:Int) (l:List UInt8) (k:Nat):cg:=fun w V=>
 V x∧ct w x 240 #[((d:Nat):Value),ae af n]∧cT 133 d l k w (fun b=>V b∧b≠x)
theorem cU.framed (x d:Nat) (n:Int) (l:List UInt8) (k:Nat):Framed (cU x d n l k):=fun w w' V h hk=>by
 obtain⟨h1,h2,h3⟩:=h
 exact⟨h1,(hk x h1).trans h2,cT.framed _ d l k w w' _ h3 fun b hb=>hk b hb.1⟩
theorem cU.wide {x d:Nat} {n:Int} {l:List UInt8} {k:Nat} {w:World} {V V':Nat→Prop} (h:cU x d n l k w V) (hV:∀ b,V b→V' b):cU x d n l k w V':=
 ⟨hV x h.1,h.2.1,h.2.2.wide fun b hb=>⟨hV b hb.1,hb.2⟩⟩
theorem cU.turn {f:FuncId} {args:Array Value} {C:Ending→Prop} {x d:Nat} {n:Int} {l l':List UInt8} {k k':Nat} {w:World} (h:Turns au f args C (cT 133 d l k) (cT 133 d l' k') w):Turns au f args C (cU x d n l k) (cU x d n l' k') w:=by
 intro V ⟨h1,h2,h3⟩ hV
 refine (h _ h3 fun b hb=>hV b hb.1).mono fun e w' ⟨he,hd,hj⟩=>⟨he,⟨.inl h1,hj.blk h2 fun h=>h.2 rfl,hd.wide fun b hb=>?_⟩,hj.imp fun b hb=>hb.1⟩
 have:=hV x h1
 rcases hb with hb|hb
 ·exact⟨.inl hb.1,hb.2⟩
 ·exact⟨.inr hb,by have:=hb.1;omega⟩
theorem r7 (w:World) (x d:Nat) (n:Int) (l:List UInt8) (k:Nat) :
 Turns au 149 #[((x:Nat):Value)] (fun e=>e=.returned (.tuple #[])) (cU x d n l k) (cU x d n l l.length) w:=by
 intro V hL hV
 have c0:=hL.2.1.cell 0
 have ht:=cU.turn (x:=x) (n:=n) (CB w d l k) V hL hV
 go_enter Tryz.func149,Tryz.ntmps149
 go_wp2_with fail
 refine ht.mono ?_
 rintro e w1 ⟨rfl,hL1,hj⟩
 go_wp2_with fail
 go_end0
 exact⟨rfl,hL1,hj⟩
theorem tW (w:World) (d:Nat) (l:List UInt8) (k:Nat) (V:Nat→Prop) (hD:cT 133 d l k w V) (hV:∀ b,V b→b<w.heap.size) :
 Calls au 65 #[((d:Nat):Value)] w fun e w'=>∃ (xs:List (List UInt8)) (j x:Nat) (u:Value),kJ l xs j∧e=.returned (.tuple #[((x:Nat):Value),u])∧Hy xs w u w'∧
  cU x d (xs.length:Int) (l.take j) j w' (Ext V w w')∧Just V w w':=by
 have hl:=hD.2.2.1
 have hd:=hD.1
 have M_:=sf w d l k V hD
 go_enter Tryz.func65,Tryz.ntmps65
 go_wp2_with fail
 refine M_.mono ?_
 rintro e w1 ⟨v1,rfl,fW,hg1⟩
 obtain⟨A1,c1,rfl,nJ,hn1,hm1⟩:=fW.reads
 go_wp2_with fail
 refine (Cx w1 A1 l.length c1 l nJ hn1 hm1 al).mono ?_
 rintro e w2 ⟨xs,j,u,hs,rfl,hX,hg2⟩
 have tO:=hg1.trans hg2
 have hD2:=cT.framed _ d l k w w2 V hD fun b hb=>tO.block b (hV b hb)
 have hjl:j≤l.length:=by rw[hs.2.1,←hs.1,aD];omega
 have hC:=yk w2 d l k j hjl V hD2 (fun b hb=>aA (hV b hb) tO.size)
 obtain⟨A2,c2,q,rfl,hB2,hq,hqc,hcm⟩:=hX
 clear fW nJ
 go_wp2_with fail
 refine hC.mono ?_
 rintro e w3 ⟨rfl,hD3,hj3⟩
 go_wp2_with fail
 go_ret2
 have hga:Grow w3 (w3.alloc (.cells #[((d:Nat):Value),ae af (q.length:Int)] 240)):=(Below.refl _ w3).alloc (aC _) _
 have hs1:=hg1.size
 have hs2:=hg2.size
 have hs3:=hj3.size
 have hsa:(w3.alloc (.cells #[((d:Nat):Value),ae af (q.length:Int)] 240)).heap.size=w3.heap.size+1:=by simp
 refine⟨xs,j,w3.heap.size,_,hs,rfl,⟨A2,c2,q,rfl,?_,hq,hqc,hcm⟩,⟨.inr ⟨by omega,by omega⟩,?_,?_⟩,(Just.bJ tO).trans (hj3.trans (Just.bJ hga))⟩
 ·have hn:∀ b,New w1 w2 b→¬ V b:=fun b hb hv=>by have:=hV b hv;have:=hb.1;omega
  exact ((hB2.just hj3 hn hn).grow hga).mono (fun b hb=>⟨by have:=hb.1;omega,by have:=hb.2;omega⟩) (fun b hb=>⟨by have:=hb.1;omega,by have:=hb.2;omega⟩)
 ·have h:=ct.made w3 240 #[((d:Nat):Value),ae af (q.length:Int)]
  rw[←hq,aP]
  exact h
 ·refine (cT.framed _ d _ _ w3 _ _ hD3 fun b hb=>hga.block b ?_).wide fun b hb=>?_
  ·rcases hb with hb|hb
   ·have:=hV b hb;omega
   ·exact hb.2
  ·rcases hb with hb|hb
   ·exact⟨.inl hb,by have:=hV b hb;omega⟩
   ·exact⟨.inr ⟨by have:=hb.1;omega,by have:=hb.2;omega⟩,by have:=hb.2;omega⟩
def tX (l b:List UInt8):Int:=if b.length≤65536 then tV l (frame b) else 3
def wI (l b:List UInt8):List UInt8:=if b.length≤65536 then Cz l (frame b) else l
theorem nk {l b:List UInt8}:tV l b=0↔fits l b=true:=by
 unfold tV
 split
 ·simp_all
 ·simp_all
theorem nM (w:World) (x d:Nat) (n:Int) (l:List UInt8) (k:Nat) (A:Option Addr) (m c:Nat) (b:List UInt8) (hb:Bytes w w.heap.size A m b) (hn:0≤n∧n≤1099511627776) :
 Turns au 71 #[((x:Nat):Value),.slice A m c] (fun e=>e=.returned (ae af (tX l b))) (cU x d n l k) (cU x d (if tX l b=0 then n+1 else n) (wI l b) k) w:=by
 intro V hL hV
 have hbl:=hb.len
 by_cases hm:m≤65536
 ·have hm':b.length≤65536:=by omega
  unfold tX wI
  rw[if_pos hm',if_pos hm']
  cases hf:fits l (frame b) with
  | true=>
    have he0:tV l (frame b)=0:=nk.2 hf
    rw[he0,if_pos rfl]
    have hB:=hL.2.1
    go_enter Tryz.func71,Tryz.ntmps71
    go_wp2_with fail
    refine (kZ w A m c b hb hm).mono ?_
    rintro e w1 ⟨v1,rfl,fW,hg1⟩
    obtain⟨A1,c1,rfl,nJ,hn1,hm1⟩:=fW.reads
    have c0:=(hB.grow hg1).cell 0
    have hL1:=cU.framed x d n l k w w1 V hL fun b hb=>hg1.block b (hV b hb)
    have ht:=cU.turn (x:=x) (n:=n) (pk w1 d l k A1 (frame b).length c1 (frame b) nJ) V hL1 (fun b hb=>aA (hV b hb) hg1.size)
    rw[he0] at ht
    clear he0
    go_wp2_with fail
    refine ht.mono ?_
    rintro e w2 ⟨rfl,hL2,hj2⟩
    have c1:=hL2.2.1.cell 1
    have f1:=hL2.2.1.frozen 1
    have hw1:IntKind.i64.wrap (n+1)=n+1:=by rw[IntKind.wrap_i64];omega
    go_wp2_with fail
    go_ret
    refine⟨rfl,⟨.inl hL.1,hL2.2.1.put 1 _,?_⟩,((Just.bJ hg1).trans hj2).put hL.1 1 _⟩
    refine (cT.framed _ d _ _ w2 _ _ hL2.2.2 fun b hb=>(fh w2 x 1 _).block b ?_ hb.2).wide fun b hb=>⟨?_,hb.2⟩
    ·have:=hj2.size
     rcases hb.1 with h|h
     ·have:=hV b h;have:=hg1.size;omega
     ·exact h.2
    ·rcases hb.1 with h|h
     ·exact .inl h
     ·exact .inr ⟨aH hg1.size h.1,by rw[dw];exact h.2⟩
  | false=>
    have he0:tV l (frame b)=24:=by unfold tV;rw[hf];rfl
    rw[he0,if_neg ak]
    have hB:=hL.2.1
    go_enter Tryz.func71,Tryz.ntmps71
    go_wp2_with fail
    refine (kZ w A m c b hb hm).mono ?_
    rintro e w1 ⟨v1,rfl,fW,hg1⟩
    obtain⟨A1,c1,rfl,nJ,hn1,hm1⟩:=fW.reads
    have c0:=(hB.grow hg1).cell 0
    have hL1:=cU.framed x d n l k w w1 V hL fun b hb=>hg1.block b (hV b hb)
    have ht:=cU.turn (x:=x) (n:=n) (pk w1 d l k A1 (frame b).length c1 (frame b) nJ) V hL1 (fun b hb=>aA (hV b hb) hg1.size)
    rw[he0] at ht
    clear he0
    go_wp2_with fail
    refine ht.mono ?_
    rintro e w2 ⟨rfl,hL2,hj2⟩
    go_wp2_with fail
    go_ret
    refine⟨rfl,hL2.wide fun b hb=>?_,(Just.bJ hg1).trans hj2⟩
    rcases hb with h|h
    ·exact .inl h
    ·exact .inr ⟨aH hg1.size h.1,h.2⟩
 ·have hm':¬ b.length≤65536:=by omega
  unfold tX wI
  rw[if_neg hm',if_neg hm',if_neg al]
  go_enter Tryz.func71,Tryz.ntmps71
  go_wp2_with fail
  refine (wk w A m c al).mono ?_
  rintro e w1 ⟨rfl,rfl⟩
  go_wp2_with fail
  go_ret
  exact⟨rfl,hL.wide fun b hb => .inl hb,Just.bJ (Grow.refl w)⟩
end Go.Proofs.YtmijcbfgfkeodaaGreatDoor.V
end
section
namespace Go.Proofs.YtmijcbfgfkeodaaGreatDoor
open Go.RowKit Go.Hop V
def eB (e:En):List UInt8:=enc (lY e).length++lY e
def tY (l:List En):List UInt8:=l.flatMap eB
theorem HV {e:En} (h:e.Ok):(eB e).length≤9010:=by
 have:=mm h
 have:=cZ (n:=(lY e).length) al
 unfold eB
 rw[aD]
 omega
theorem sg:∀ (l:List En),(∀ e∈l,e.Ok)→(tY l).length≤l.length*9010
 | [],_=>by simp[tY]
 | e :: l,h=>by
   have h1:=sg l fun x hx=>h x (by simp[hx])
   have h2:=HV (h e (by simp))
   rw[show tY (e :: l)=eB e++tY l from rfl,aD,aL]
   omega
theorem CF (l:List En) (e:En):tY (l++[e])=tY l++eB e:=by simp[tY]
theorem CG (w:World) (u:Value) (l:List UInt8) (D:Nat→Prop) (A:Option Addr) (c:Nat) (q:List El) (hu:bZ l u w) (hl:l.length≤1048576) (hq:lh w D A q) (hok:∀ x∈q,x.e.Ok) (hn:q.length≤1024) :
 Calls au 228 #[u,.slice A q.length c] w fun e w'=>∃ v,e=.returned v∧Grow w w'∧bZ (l++enc q.length++tY (q.map El.e)) v w':=by
 have wq:IntKind.u64.wrap (q.length:Int)=(q.length:Int):=by rw[wrap_u64];omega
 have hP:=fy w u l q.length hu al al
 have hel:=cZ (n:=q.length) al
 obtain⟨L0,Bc⟩:∃ L0:List UInt8,Hid (L0=l++enc q.length):=⟨_,Lib.hid rfl⟩
 rw[←Bc.out] at hP ⊢
 have hL0:L0.length≤1048600:=by rw[Bc.out,aD];omega
 go_enter Tryz.func228,Tryz.ntmps228
 go_wp2_with fail
 refine hP.mono ?_
 rintro e w1 ⟨v1,rfl,hg1,hb1⟩
 have hq1:=hq.grow hg1
 go_wp2_with fail
 go_loopw [0,16] (fun v i wr=>∃ k:Nat,k≤q.length∧i=ae af k∧bZ (L0++tY ((q.take k).map El.e)) v wr∧Grow w1 wr) (fun _ i _=>q.length-(intOf i).toNat)
 case atStart=>exact⟨0,by omega,rfl,by simpa [tY] using hb1,Grow.refl _⟩
 case round=>
  obtain⟨k,hkn,rfl,hI,hgr⟩:=hrel
  by_cases hk:k<q.length
  ·have hqr:=hq1.grow hgr
   obtain⟨ad,hkq,rfl,hV,iT,e0,e1⟩:=hqr.1.iS al kG hk
   have gy:=hqr.2 q[k] (aO hkq)
   have hsn:q.take (k+1)=q.take k++[q[k]]:=aI hkq
   have hqm:=aO hkq
   have HS:=Lib.hid hsn
   clear hsn
   have o2:=hok _ hqm
   have hll:=sg ((q.take k).map El.e) fun e he=>by obtain⟨x,hx,rfl⟩:=List.mem_map.1 he;exact hok x (bp hx)
   rw[aP,aK,bF al] at hll
   have LP:=Lib.hid hll
   clear hll hqm
   generalize q[k]=b at gy e0 e1 HS o2
   have Kw:=fun w1 (hg1:Grow wr w1)=>tJ w1 b.e D b.A b.c o2 (In.grow gy.1 hg1)
   have hlen:=mm o2
   obtain⟨⟨bk,ag,sh,sq,ep,ds,se,fr,tg⟩,Ab,cb⟩:=b
   dsimp only[El.cells,En.agg] at e0 e1 Kw
   have e2:=e1 1 _ rfl
   have e3:=e1 2 _ rfl
   have e4:=e1 3 _ rfl
   have e5:=e1 4 _ rfl
   have e6:=e1 5 _ rfl
   have e7:=e1 6 _ rfl
   have e8:=e1 7 _ rfl
   have e1:=e1 0 _ rfl
   have e0:=e0 _ rfl
   have hga:=bN wr (.cells #[ae af bk,ae af ag,ae af sh,ae af sq,ae af ep,.slice Ab ds.length cb,.string se,ae af fr,ae af tg] 32)
   have Kw:=Kw _ hga
   obtain⟨bs,HB⟩:∃ bs:List UInt8,Hid (bs=lY ⟨bk,ag,sh,sq,ep,ds,se,fr,tg⟩):=⟨_,Lib.hid rfl⟩
   rw[←HB.out] at Kw hlen
   clear gy o2
   go_wp2_with fail
   refine Kw.mono ?_
   rintro e w2 ⟨v2,rfl,hg2,hb2⟩
   have cv:=xV w2 hb2
   have hT:=mf w2 u0 _ ⟨bs.toArray⟩ (hI.below (hga.trans hg2)) (by rw[aD];have:=LP.out;have:=bm 9010 (show k≤1024 by omega);omega) (by show bs.toArray.size≤_;simp;omega)
   rw[show (ByteArray.mk bs.toArray).size=bs.length by show bs.toArray.size=_;simp,show (ByteArray.mk bs.toArray).data.toList=bs from rfl] at hT
   go_wp2_with fail
   refine hT.mono ?_
   rintro e w3 ⟨v3,rfl,hg3,hb3⟩
   have hb4:bZ (L0++tY ((q.take (k+1)).map El.e)) v3 w3:=by
    rw[HS.out,aX,bg,List.map_nil,CF,←aM]
    show bZ (L0++tY ((q.take k).map El.e)++(enc (lY ⟨bk,ag,sh,sq,ep,ds,se,fr,tg⟩).length++lY ⟨bk,ag,sh,sq,ep,ds,se,fr,tg⟩)) v3 w3
    rw[←HB.out,←aM]
    exact hb3
   go_wp2_with fail
   go_roundw
   case rel=>exact⟨k+1,by omega,by go_num,hb4,hgr.trans (hga.trans (hg2.trans hg3))⟩
   case measure=>simp[intOf];omega
  ·obtain rfl:k=q.length:=by omega
   rw[List.take_length] at hI
   go_wp2_with fail
   go_ret
   exact⟨_,rfl,hg1.trans hgr,hI⟩
theorem r8 (w:World) (x d:Nat) (n:Int) (l b:List UInt8) (u:Value) (hb:bZ b u w) (hn:0≤n∧n≤1099511627776) (h1:b.length≤65536) (h2:l.length+(frame b).length≤1048576) :
 Turns au 68 #[((x:Nat):Value),u] (fun e=>e=.returned (ae af 0)) (cU x d n l l.length) (cU x d (n+1) (l++frame b) (l++frame b).length) w:=by
 intro V hL hV
 obtain⟨A,m,c,rfl,hbb,_⟩:=hb
 have hA:=nM w x d n l l.length A m c b hbb hn V hL hV
 have hf:fits l (frame b)=true:=yj h2
 have hz:tX l b=0:=by unfold tX;rw[if_pos h1];exact nk.2 hf
 have hr:wI l b=l++frame b:=by unfold wI Cz;rw[if_pos h1,if_pos hf]
 rw[hz,if_pos rfl,hr] at hA
 clear hz hr hf
 go_enter Tryz.func68,Tryz.ntmps68
 go_wp2_with fail
 refine hA.mono ?_
 rintro e w1 ⟨rfl,hL1,hj1⟩
 have hlt:∀ b,Ext V w w1 b→b<w1.heap.size:=fun b hb=>by
  rcases hb with hb|hb
  ·have:=hV b hb;have:=hj1.size;omega
  ·exact hb.2
 have hS:=r7 w1 x d (n+1) (l++frame b) l.length _ hL1 hlt
 go_wp2_with fail
 refine hS.mono ?_
 rintro e w2 ⟨rfl,hL2,hj2⟩
 go_wp2_with fail
 go_ret
 refine⟨rfl,hL2.wide fun b hb=>?_,⟨hj2.os.trans hj1.os,hj2.tape.trans hj1.tape,hj2.output.trans hj1.output,aH hj1.size hj2.size,fun b hb hne=>(hj2.block b (aA hb hj1.size) fun h=>?_).trans (hj1.block b hb hne)⟩⟩
 ·rcases hb with (hb|hb)|hb
  ·exact .inl hb
  ·exact .inr ⟨hb.1,aA hb.2 hj2.size⟩
  ·exact .inr ⟨aH hj1.size hb.1,hb.2⟩
 ·rcases h with h|h
  ·exact hne h
  ·have:=h.1;omega
def CH (A:Option Addr) (q:List El):cg:=fun w V=>lh w V A q
theorem CH.framed (A:Option Addr) (q:List El):Framed (CH A q):=fun w w' V h hk=>⟨h.1.keep fun b hb _=>hk b hb,fun x hx=>⟨In.keep (h.2 x hx).1 fun b hb _=>hk b hb,(h.2 x hx).2⟩⟩
def ec (t h:Nat) (l:List En):List UInt8:=enc t++enc h++enc l.length++tY l
theorem ra {t h:Nat} {l:List En} (h1:t<18446744073709551616) (h2:h<18446744073709551616) (hl:∀ e∈l,e.Ok):(ec t h l).length≤30+l.length*9010∨18446744073709551616≤l.length:=by
 rcases bn l.length 18446744073709551616 with h3|h3
 ·have:=cZ h1
  have:=cZ h2
  have:=cZ h3
  have:=sg l hl
  refine .inl ?_
  unfold ec
  simp only[aD]
  omega
 ·exact .inr h3
def si (t h:Int) (sl:Value) (x:Nat):Array Value:=#[ae af t,ae af h,sl,((x:Nat):Value)]
def Room (bs b:List UInt8):Prop:=b.length≤65536∧bs.length+(frame b).length≤1048576
theorem sj (w:World) (s x d:Nat) (t0 h0:Int) (sl0:Value) (n:Int) (bs:List UInt8) (TE HA:Nat) (D:Nat→Prop) (A:Option Addr) (c:Nat) (q:List El) (hte:TE≤9223372036854775807) (P6:HA≤9223372036854775807)
 (hq:lh w D A q) (hok:∀ x∈q,x.e.Ok) (hn:q.length≤1024) (hn0:0≤n∧n≤1099511627776) (hroom:Room bs (ec TE HA (q.map El.e))) (V:Nat→Prop) (hM:Many [Cell s 259 (si t0 h0 sl0 x),cU x d n bs bs.length] w V) (hV:∀ b,V b→b<w.heap.size) :
 Calls au 166 #[((s:Nat):Value),.agg #[ae af (TE:Int),ae af (HA:Int),.slice A q.length c]] w fun e w'=>e=.returned (.bool true)∧Many [Cell s 259 (si TE HA (.slice A q.length c) x),cU x d (n+1) (bs++frame (ec TE HA (q.map El.e))) (bs++frame (ec TE HA (q.map El.e))).length] w' (Ext V w w')∧Just V w w':=by
 have hF:bM [cU x d n bs bs.length]:=bM.nil.cons (cU.framed _ _ _ _ _)
 have hS:=Solo.begin_ hM hV
 have hwd:ec TE HA (q.map El.e)=enc TE++enc HA++enc q.length++tY (q.map El.e):=by unfold ec;rw[aP]
 obtain⟨WB,F6⟩:∃ WB:List UInt8,Hid (WB=ec TE HA (q.map El.e)):=⟨_,Lib.hid rfl⟩
 rw[←F6.out] at hroom hwd ⊢
 have QN:=Lib.hid hwd
 clear hwd
 have mh:∀ (vs:Array Value) (w:World),(callFunc 219 vs).run au w=.ok (.enter 219 vs) w:=fun vs w=>by go_simp
 have N0:∀ (vs:Array Value) (w:World),(callFunc 228 vs).run au w=.ok (.enter 228 vs) w:=fun vs w=>by go_simp
 have hg0:=bN w (.cells #[ae af (TE:Int),ae af (HA:Int),.slice A q.length c] 257)
 have hBw:=ct.made w 257 #[ae af (TE:Int),ae af (HA:Int),.slice A q.length c]
 obtain⟨y,HY⟩:∃ y:Nat,Hid (y=w.heap.size):=⟨_,rfl⟩
 obtain⟨wa,dq⟩:∃ wa:World,Hid (wa=w.alloc (.cells #[ae af (TE:Int),ae af (HA:Int),.slice A q.length c] 257)):=⟨_,rfl⟩
 rw[←dq.out] at hg0 hBw
 rw[←HY.out] at hBw
 have hF2:bM [Cell s 259 (si t0 h0 sl0 x),cU x d n bs bs.length]:=hF.cons (Cell.framed _ _ _)
 have ez:=hS.join hF2 hg0 (R:=Cell y 257 #[ae af (TE:Int),ae af (HA:Int),.slice A q.length c]) (U:=fun b=>b=y) ⟨rfl,hBw⟩ (fun b hb=>by have:=HY.out;have:=hBw.lt;omega)
 have QO:=hq.grow hg0
 have wT:IntKind.u64.wrap (TE:Int)=(TE:Int):=by rw[wrap_u64];omega
 have wH:IntKind.u64.wrap (HA:Int)=(HA:Int):=by rw[wrap_u64];omega
 have eT:=cZ (n:=TE) al
 have eH:=cZ (n:=HA) al
 go_enter Tryz.func166,Tryz.ntmps166
 go_wp2_with fail
 rw[←dq.out,←HY.out]
 refine bL 12 28 [(3,.inr (fun _=>bZ (enc TE))),(7,.inr (fun _=>bZ (enc TE++enc HA))),(10,.inr (fun _=>bZ (enc TE++enc HA++enc q.length++tY (q.map El.e))))] rfl rfl am am am ?_ ?_
 ·intro x hx φ he
  simp only[aF,aE,or_false] at hx
  rcases hx with rfl|rfl|rfl<;>cases he
  all_goals first|exact ca (cn _)|fail
 intro ops' A' K' T hops hA' hK hT
 refine bQ 6 (.tmp 3) (((y:Nat):Value)) (((y:Nat):Value)) ?_
 refine bI 7 (.tmp 6) (((y:Nat):Value)) (ae af (TE:Int)) (fun ρ h1 kk w1 (hg:Grow _ w1) hb hf=>by have c:=(hBw.grow hg).cell 0;go_simp) ?_
 refine bI 8 (.tmp 7) (ae af (TE:Int)) (ae ah (TE:Int)) (fun ρ h1 kk w1 (hg:Grow _ w1) hb hf=>by go_simp;try rfl) ?_
 refine cH 9 aj ak (bO aj) (fun _=>bZ (enc TE)) (by rw[hK.out];rfl) 219 _ _ aj [ai none 0 0,ae ah (TE:Int)] aj mh (fun kk w1 (hg:Grow _ w1) hb hf=>cr (φ:=fun _=>bZ (enc TE)) aj (by exact fy w1 _ [] TE (nK w1) (by simp) al)) (fun v9=>?_)
 refine bQ 10 (.tmp 3) (((y:Nat):Value)) (.pointer (some ⟨y,1,none⟩)) ?_
 refine bI 11 (.tmp 10) (.pointer (some ⟨y,1,none⟩)) (ae af (HA:Int)) (fun ρ h1 kk w1 (hg:Grow _ w1) hb hf=>by have c:=(hBw.grow hg).cell 1;go_simp) ?_
 refine bI 12 (.tmp 11) (ae af (HA:Int)) (ae ah (HA:Int)) (fun ρ h1 kk w1 (hg:Grow _ w1) hb hf=>by go_simp;try rfl) ?_
 refine cH 13 aj ak (bO aj) (fun _=>bZ (enc TE++enc HA)) (by rw[hK.out];rfl) 219 _ _ aj [v9,ae ah (HA:Int)] aj mh (fun kk w1 (hg:Grow _ w1) hb hf=>cr (φ:=fun _=>bZ (enc TE++enc HA)) aj (by exact fy w1 v9 _ HA (cy hf (by rw[hA'.out];kernel_rfl)) al al)) (fun v13=>?_)
 refine bQ 14 (.tmp 3) (((y:Nat):Value)) (.pointer (some ⟨y,2,none⟩)) ?_
 refine bI 15 (.tmp 14) (.pointer (some ⟨y,2,none⟩)) (.slice A q.length c) (fun ρ h1 kk w1 (hg:Grow _ w1) hb hf=>by have c:=(hBw.grow hg).cell 2;go_simp) ?_
 refine cH 16 aj ak (bO aj) (fun _=>bZ (enc TE++enc HA++enc q.length++tY (q.map El.e))) (by rw[hK.out];rfl) 228 _ _ aj [v13,.slice A q.length c] aj N0 (fun kk w1 (hg:Grow _ w1) hb hf=>cr (φ:=fun _=>bZ (enc TE++enc HA++enc q.length++tY (q.map El.e))) aj (by exact CG w1 v13 _ D A c q (cy hf (by rw[hA'.out];kernel_rfl)) (by rw[aD];omega) (QO.grow hg) hok hn)) (fun v16=>?_)
 refine bP 5 (v16) ?_
 refine ce (fun _ _ w1 (hg:Grow _ w1) _ bR=>hT _ _ ?_)
 clear hops hA' hK hT
 simp only[cj,Act.put,aw,ay,az,ax,aB]
 have hE:=bR.1
 clear bR
 rw[←QN.out] at hE
 have i9:=hF2.cons (Cell.framed y 257 #[ae af (TE:Int),ae af (HA:Int),.slice A q.length c])
 have hS1:=ez.grows i9 hg
 have J1:=Just.bJ (V:=cB V w) (hg0.trans hg)
 have s3:w1.cell? ⟨s,3,none⟩=some (((x:Nat):Value)):=(hS1.blk 1 rfl).cell 3
 have hW:=r8 w1 x d n bs WB v16 hE hn0 hroom.1 hroom.2
 have hC:=hS1.at_ 2 rfl i9 hW
 go_wp2_with fail
 refine hC.mono ?_
 rintro e w2 ⟨rfl,hj2,hS2⟩
 have hS2:Solo (cB V w) (Many [Cell y 257 #[ae af (TE:Int),ae af (HA:Int),.slice A q.length c],Cell s 259 (si t0 h0 sl0 x),cU x d (n+1) (bs++frame WB) (bs++frame WB).length]) w2:=hS2
 have hG:bM [Cell y 257 #[ae af (TE:Int),ae af (HA:Int),.slice A q.length c],Cell s 259 (si t0 h0 sl0 x),cU x d (n+1) (bs++frame WB) (bs++frame WB).length]:=((bM.nil.cons (cU.framed _ _ _ _ _)).cons (Cell.framed _ _ _)).cons (Cell.framed _ _ _)
 have hB2:=hS2.blk 1 rfl
 have hY2:=hS2.blk 0 rfl
 have y0:=hY2.cell 0
 have y1:=hY2.cell 1
 have y2:=hY2.cell 2
 have hP:=(hS2.ig 1 rfl).1
 go_wp2_with (refine kH rfl 257 _ _ rfl s 0 rfl [ae af (TE:Int),ae af (HA:Int),.slice A q.length c] rfl hB2 (aQ rfl) rfl am (cs':=si TE HA (.slice A q.length c) x) rfl ?_;intro w3 hB3 hj3 hs3;refine stay ?_)
 refine bV ?_
 have dO:=hS2.turned 1 rfl hG hj3 hB3
 go_wp2_with fail
 go_ret
 obtain⟨r1,r2⟩:=Solo.done (l:=[Cell s 259 (si TE HA (.slice A q.length c) x),cU x d (n+1) (bs++frame WB) (bs++frame WB).length]) dO.drop1 ((J1.trans hj2).trans (hj3.imp fun b hb=>by rw[hb];exact hP)) hV
 exact⟨rfl,r1,r2⟩
end Go.Proofs.YtmijcbfgfkeodaaGreatDoor
end
