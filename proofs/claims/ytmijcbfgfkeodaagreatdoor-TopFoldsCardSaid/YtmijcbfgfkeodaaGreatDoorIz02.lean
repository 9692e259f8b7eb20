/- Own, Own2, Recs, Kit, Dlt. -/
import Derived.Test.YtmijcbfgfkeodaaGreatDoorIz01
import Derived.Deep.Upon
import Derived.Laws.IdiomStrings
import Derived.Laws.BytesArg
import Derived.Lib.SliceRun
import Derived.Test.YtmijcbfgfkeodaaGreatDoorProg
set_option linter.all false
set_option maxRecDepth 100000
open Go.Value renaming int → ae,slice → ai
open Go.IntKind renaming i64 → af,u64 → ah
open Go.Proofs.Tryz renaming prog → au
open List renaming drop_succ_cons → ax,length_append → aD,not_mem_nil → aE,mem_cons → aF,eq_nil_of_length_eq_zero → aJ,length_take → aK,length_cons → aL,append_assoc → aM,take_of_length_le → aN,nil_append → aR,flatMap_cons → aU,take_succ_cons → aV,append_nil → bf,map_cons → bg,length_drop → bh,take_zero → bw,cons_append → bA,drop_of_length_le → bD,size_toArray → bH
open Nat renaming lt_of_lt_of_le → aA,le_refl → aC,le_trans → aH,zero_le → aZ,zero_add → a_,eq_zero_or_pos → bj,mul_le_mul_right → bm,min_eq_left → bF
open Array renaming length_toList → bG
section
namespace Go.Hop
open Go.RowKit
def Own (w:World) (V:Nat→Prop) (e:TypeId) (size:Nat) (v:Value) (n:Nat) (xs:List Value):Prop:=
 xs.length=n*size∧((v=ai none 0 0∧n=0)∨
  ∃ g cap cur,v=.slice (some ⟨g,0,none⟩) n cap∧V g∧w.heap[g]?=some (.cells cur e (0,0))∧n≤cap∧cap≤maxLen∧(cur.size=cap*size∨(cap=n∧n*size≤cur.size))∧cur.toList.take (n*size)=xs)
def Ext (V:Nat→Prop) (w w':World) (b:Nat):Prop:=V b∨(w.heap.size≤b∧b<w'.heap.size)
section
variable {w w':World} {V V':Nat→Prop} {e:TypeId} {size n:Nat} {v:Value} {xs:List Value}
theorem Own.nil:Own w V e size (ai none 0 0) 0 []:=⟨by simp,.inl ⟨rfl,rfl⟩⟩
theorem Own.mono (h:Own w V e size v n xs) (hV:∀ b,V b→V' b):Own w V' e size v n xs:=by
 refine⟨h.1,?_⟩
 rcases h.2 with h2|⟨g,cap,cur,h1,h2,h3⟩
 ·exact .inl h2
 ·exact .inr ⟨g,cap,cur,h1,hV g h2,h3⟩
theorem Own.keep (h:Own w V e size v n xs) (hk:∀ b,V b→w'.heap[b]?=w.heap[b]?):Own w' V e size v n xs:=by
 refine⟨h.1,?_⟩
 rcases h.2 with h2|⟨g,cap,cur,h1,h2,h3,h4⟩
 ·exact .inl h2
 ·exact .inr ⟨g,cap,cur,h1,h2,(hk g h2).trans h3,h4⟩
theorem Own.rG {base:Nat} (h:w.ownsRow base e size v n xs) (hV:∀ g,v.ownBlock=some g→V g):Own w V e size v n xs:=by
 refine⟨h.1,?_⟩
 rcases h.2 with h2|⟨g,cap,cur,h1,_,h3,h4,h5,h6,h7⟩
 ·exact .inl h2
 ·exact .inr ⟨g,cap,cur,h1,hV g (by rw[h1];rfl),h3,h4,h5,.inl h6,h7⟩
theorem Own.reads (h:Own w V e size v n xs):∃ A c,v=.slice A n c∧Reads w w.heap.size size A n xs∧n≤c∧c≤maxLen:=by
 rcases h.2 with ⟨rfl,rfl⟩|⟨g,cap,cur,rfl,_,hg,hn,hm,hsz,htk⟩
 ·exact⟨none,0,rfl,⟨h.1,fun hh=>absurd hh al⟩,aC _,aZ _⟩
 ·refine⟨_,cap,rfl,⟨h.1,fun _=>⟨_,rfl,(Array.getElem?_eq_some_iff.1 hg).1,fun j u hu=>?_⟩⟩,hn,hm⟩
  have hadd:(⟨g,0,none⟩:Addr).add j=⟨g,j,none⟩:=by unfold Addr.add;split<;>simp_all
  rw[hadd,cell_of_row _ _ _ _ _ _ hg]
  rw[←htk,List.getElem?_take] at hu
  split at hu
  ·simpa using hu
  ·cases hu
theorem Own.cut {A:Option Addr} {c k:Nat} (h:Own w V e size (.slice A n c) n xs) (hk:k≤n):Own w V e size (.slice A k k) k (xs.take (k*size)):=by
 have hks:k*size≤n*size:=bm _ hk
 refine⟨by rw[aK,h.1];exact bF hks,?_⟩
 rcases h.2 with ⟨h1,rfl⟩|⟨g,cap,cur,h1,hV,hg,hn,hm,hsz,htk⟩
 ·injection h1 with h1 h2 h3
  subst h1
  obtain rfl:k=0:=by omega
  exact .inl ⟨rfl,rfl⟩
 ·injection h1 with h1 h2 h3
  subst h1;subst h3
  refine .inr ⟨g,k,cur,rfl,hV,hg,aC _,by omega,.inr ⟨rfl,?_⟩,?_⟩
  ·have:=bm size hn
   rcases hsz with hsz|⟨_,hsz⟩<;>omega
  ·rw[←htk,List.take_take,bF hks]
theorem Own.put (h:Own w V e size v n xs) {g:Nat} (hg:¬ V g) (i:Nat) (u:Value):Own (w.setCell ⟨g,i,none⟩ u) V e size v n xs:=
 h.keep fun b hb=>Below.heap_setCell w ⟨g,i,none⟩ u b (fun e=>hg (by rw[←show b=g from e];exact hb))
theorem Own.grow (h:Own w V e size v n xs) (hV:∀ b,V b→b<w.heap.size) (hg:Grow w w'):Own w' V e size v n xs:=h.keep fun b hb=>hg.block b (hV b hb)
theorem dw (w:World) (p:Addr) (u:Value):(w.setCell p u).heap.size=w.heap.size:=by simp[World.setCell]
theorem Just.put {a b:World} (h:Just V a b) {g:Nat} (hg:V g) (i:Nat) (u:Value):Just V a (b.setCell ⟨g,i,none⟩ u):=
 h.trans (Just.dj ((Only.refl g b).put i u) hg)
end
section
variable {P:Program} {t e:TypeId} {size bytes:Nat} {z:Value} {V:Nat→Prop}
theorem Reads.src {w:World} {B m c:Nat} {A:Option Addr} {news:List Value} (E:Elem P t e size bytes z) (hr:Reads w B size A m news) (hm:m=0):Src P size t (.slice A m c) 0 [] w:=by
 subst hm
 cases A with
 | none=>exact Src.ofNil w E.und c
 | some ad=>exact Src.ofSlice w E.und ad 0 c [] (by simp) (by simp) (by simp)
theorem iz (E:Elem P t e size bytes z) (w:World) (ty:Nat) (v:Value) (n:Nat) (xs:List Value) (hown:Own w V e size v n xs)
 (B:Nat) (A:Option Addr) (m c:Nat) (news:List Value) (hr:Reads w B size A m news) (h1:∀ u∈news,u.oneCell'=true)
 (hbytes:(n+m)*bytes≤140737488355328) :
 ∃ v' w',(Builtin.append_ #[t,t] ty #[v,.slice A m c]).run P w=.ok v' w'∧Own w' (Ext V w w') e size v' (n+m) (xs++news)∧Just V w w':=by
 have whole:w.ownsRow 0 e size v n xs→(∀ g,v.ownBlock=some g→V g)→∃ v' w',(Builtin.append_ #[t,t] ty #[v,.slice A m c]).run P w=.ok v' w'∧Own w' (Ext V w w') e size v' (n+m) (xs++news)∧Just V w w':=fun ho hV=>by
  obtain⟨v',w',hrun,h2,h3,h4⟩:=jj E w 0 ty v n xs ho B A m c news hr h1 hbytes (aZ _)
  refine⟨v',w',hrun,.rG h2 fun g hg=>?_,⟨h3.os,h3.tape,h3.output,h3.size,fun k hk hv=>h3.block k hk (fun e=>hv (hV k e.symm))⟩⟩
  rcases h4 with h4|h4
  ·exact .inl (hV g (by rw[←h4,hg]))
  ·rw[hg] at h4;injection h4 with h4
   have:=h2.lt g hg
   exact .inr ⟨by omega,this.2⟩
 rcases hown.2 with ⟨rfl,rfl⟩|⟨g,cap,cur,rfl,hV,hg,hn,hm,hsz,htk⟩
 ·exact whole ⟨hown.1,.inl ⟨rfl,rfl⟩⟩ (fun g hg=>by cases hg)
 ·rcases hsz with hsz|⟨rfl,hsz⟩
  ·exact whole ⟨hown.1,.inr ⟨g,cap,cur,rfl,aZ _,hg,hn,hm,hsz,htk⟩⟩ (fun g' hg'=>by injection hg' with hg';rw[←hg'];exact hV)
  ·obtain⟨i,hi,hz,hs,hb⟩:=E.info
   by_cases hm0:m=0
   ·have hsrc:=hr.src (c:=c) E hm0
    subst hm0
    obtain rfl:news=[]:=aJ (by simpa using hr.1)
    have:=run_append_nothing (P:=P) w t t ty e i E.und hi (some ⟨g,0,none⟩) cap cap (aC _) (.slice A 0 c) (by rw[hs];exact hsrc)
    refine⟨_,w,this,?_,Just.bJ (Grow.refl w)⟩
    rw[bf]
    exact hown.mono fun b hb => .inl hb
   ·obtain⟨ad,rfl,_,hc⟩:=hr.2 al
    obtain⟨A',c',hv,hrd,_,_⟩:=hown.reads
    have h63:cap+m≤maxLen:=by
     have:=Nat.le_mul_of_pos_right (cap+m) E.bpos
     simp only[maxLen];omega
    have holds:∀ j u,xs[j]?=some u→w.cell? ((⟨g,0,none⟩:Addr).add j)=some u:=by
     intro j u hu
     have hlt:0<cap:=by
      rcases bj cap with h0|h0
      ·have:xs.length=0:=by rw[hown.1,h0];simp
       rw[aJ this] at hu;simp at hu
      ·exact h0
     obtain⟨Jv,e',_,hc'⟩:=hrd.2 hlt
     injection hv with hv
     rw[←hv] at e';injection e' with e'
     rw[e'];exact hc' j u hu
    obtain⟨v',w',hrun,r1,r2⟩:=run_append_arg_grows (P:=P) w t ty e i z size bytes E.und hi hz hs hb E.zs E.pos ⟨g,0,none⟩ cap cap xs hown.1 holds ad m c news hr.1 hc al h63 hbytes
    refine⟨v',w',hrun,.rG r1 fun g' hg'=>?_,⟨r2.os,r2.tape,r2.output,r2.size,fun k hk _=>r2.block k hk (by simp)⟩⟩
    have h1:=r1.lt g' hg'
    rcases r1.2 with ⟨hv',_⟩|⟨g2,_,_,hv',hb',_⟩
    ·rw[hv'] at hg';cases hg'
    ·rw[hv'] at hg';injection hg' with hg'
     subst hg'
     exact .inr ⟨hb',h1.2⟩
theorem cR (E:Elem P t e size bytes z) (w:World) {ops:Array Oper} {rest:List Oper} {o:Oper} {a:Act} {Q:Exit→Act→World→Prop} (hw:Region.wanted o (yielded ops a.tmps)=true) (s x:Operand)
 (ho:o.op=.call { callee := .builtin .append,args:=#[s,x],argTypes:=#[t,t] })
 (v:Value) (n:Nat) (xs:List Value) (hs:a.eval s=v) (hown:Own w V e size v n xs)
 (B:Nat) (A:Option Addr) (m c:Nat) (news:List Value) (hx:a.eval x=.slice A m c) (hr:Reads w B size A m news) (h1:∀ u∈news,u.oneCell'=true)
 (hbytes:(n+m)*bytes≤140737488355328)
 (h:∀ v' w',Own w' (Ext V w w') e size v' (n+m) (xs++news)→Just V w w'→wpList P ops Q rest (a.put o.dst v') w') :
 wpList P ops Q (o :: rest) a w:=by
 obtain⟨v',w',hrun,h2,h3⟩:=iz E w o.type v n xs hown B A m c news hr h1 hbytes
 unfold wpList
 rw[if_pos hw]
 refine .inl ?_
 unfold Oper.wp execOp
 simp only[ho,resolve,invoke,builtin,Sem.run_bind,Sem.run_pure,Result.andThen_ok,List.map_toArray,bg,List.map_nil,hs,hx,hrun]
 exact h v' w' h2 h3
end
theorem ku {P:Program} (src dst e:TypeId) (hs:P.underlying src=some (.slice e)) (he:P.underlying e=some (.int .u8)) (hd:P.underlying dst=some .string)
 (w:World) {B:Nat} {A:Option Addr} {n c:Nat} {l:List UInt8} (h:Bytes w B A n l):(convert src dst (.slice A n c)).run P w=.ok (.string ⟨l.toArray⟩) w:=by
 have hl:=h.len
 cases A with
 | none=>
   have hn:n=0:=by
    rcases bj n with h0|h0
    ·exact h0
    ·obtain⟨_,e',_⟩:=h.2 h0;cases e'
   subst hn
   obtain rfl:l=[]:=aJ hl
   exact run_convert_bytes_nil w src e hs he 0 c dst hd
 | some ad=>
   subst hl
   refine run_convert_bytes_back w src dst e ad c l hs he hd fun j hj=>?_
   obtain⟨Jv,_,e',hc⟩:=h.at_ hj
   injection e' with e'
   rw[e'];exact hc
theorem t7 {P:Program} (src dst e:TypeId) (hs:P.underlying src=some (.slice e)) (he:P.underlying e=some (.int .u8)) (hd:P.underlying dst=some .string)
 (w:World) {u:Value} {l:List UInt8} (h:bZ l u w):(convert src dst u).run P w=.ok (.string ⟨l.toArray⟩) w:=by
 obtain⟨A,n,c,rfl,h,_⟩:=h
 exact ku src dst e hs he hd w h
theorem Own.isBytes {w:World} {V:Nat→Prop} {e n:Nat} {v:Value} {l:List UInt8} (h:Own w V e 1 v n (gn l)):bZ l v w:=by
 obtain⟨A,c,rfl,hR,h1,h2⟩:=h.reads
 exact⟨A,n,c,rfl,hR,h1,h2⟩
abbrev cg:=World→(Nat→Prop)→Prop
def Framed (S:cg):Prop:=∀ w w' V,S w V→(∀ b,V b→w'.heap[b]?=w.heap[b]?)→S w' V
def Duo (P:Nat→Prop) (S R:cg) (w:World):Prop:=
 (∀ b,w.heap.size≤b→P b)∧∃ V U:Nat→Prop,S w V∧R w U∧(∀ b,V b→¬ U b)∧(∀ b,V b→P b∧b<w.heap.size)∧(∀ b,U b→P b∧b<w.heap.size)
def Solo (P:Nat→Prop) (S:cg) (w:World):Prop:=
 (∀ b,w.heap.size≤b→P b)∧∃ V:Nat→Prop,S w V∧(∀ b,V b→P b∧b<w.heap.size)
def Turns (Pr:Program) (f:FuncId) (args:Array Value) (C:Ending→Prop) (S S':cg) (w:World):Prop:=
 ∀ V:Nat→Prop,S w V→(∀ b,V b→b<w.heap.size)→Calls Pr f args w fun e w'=>C e∧S' w' (Ext V w w')∧Just V w w'
section
variable {P P':Nat→Prop} {S S' R R':cg} {w w':World}
theorem jd {V:Nat→Prop} (hV:∀ b,V b→P b∧b<w.heap.size) (hP:∀ b,w.heap.size≤b→P b) (hs:w.heap.size≤w'.heap.size):∀ b,Ext V w w' b→P b∧b<w'.heap.size:=fun b hb=>by
 rcases hb with h|⟨h1,h2⟩
 ·have:=hV b h;exact⟨this.1,by omega⟩
 ·exact⟨hP b h1,h2⟩
theorem Duo.left {Pr:Program} {f:FuncId} {args:Array Value} {C:Ending→Prop} (h:Duo P S R w) (hR:Framed R) (hc:Turns Pr f args C S S' w):Calls Pr f args w fun e w'=>C e∧Just P w w'∧Duo P S' R w':=by
 obtain⟨h0,V,U,h1,h2,h3,h4,h5⟩:=h
 refine (hc V h1 (fun b hb=>(h4 b hb).2)).mono fun e w' ⟨he,hs,hj⟩=>⟨he,hj.imp fun k hk=>(h4 k hk).1,fun b hb=>h0 b (aH hj.size hb),Ext V w w',U,hs,hR w w' U h2 (fun b hb=>hj.block b (h5 b hb).2 (fun hv=>h3 b hv hb)),fun b hb hu=>?_,jd h4 h0 hj.size,fun b hb=>⟨(h5 b hb).1,aA (h5 b hb).2 hj.size⟩⟩
 rcases hb with hb|⟨hb,_⟩
 ·exact h3 b hb hu
 ·have:=(h5 b hu).2;omega
theorem Solo.call {Pr:Program} {f:FuncId} {args:Array Value} {C:Ending→Prop} (h:Solo P S w) (hc:Turns Pr f args C S S' w):Calls Pr f args w fun e w'=>C e∧Just P w w'∧Solo P S' w':=by
 obtain⟨h0,V,h1,h4⟩:=h
 exact (hc V h1 (fun b hb=>(h4 b hb).2)).mono fun e w' ⟨he,hs,hj⟩=>⟨he,hj.imp fun k hk=>(h4 k hk).1,fun b hb=>h0 b (aH hj.size hb),Ext V w w',hs,jd h4 h0 hj.size⟩
theorem Solo.grow (h:Solo P S w) (hS:Framed S) (hg:Grow w w'):Solo P S w':=by
 obtain⟨h0,V,h1,h4⟩:=h
 exact⟨fun b hb=>h0 b (aH hg.size hb),V,hS w w' V h1 (fun b hb=>hg.block b (h4 b hb).2),fun b hb=>⟨(h4 b hb).1,aA (h4 b hb).2 hg.size⟩⟩
end
def Past (B x b:Nat):Prop:=B≤b∧b≠x
theorem flat_get {α β:Type} (f:α→List β) (m:Nat) (hf:∀ a,(f a).length=m):∀ (l:List α) (k j:Nat) (hk:k<l.length),j<m→(l.flatMap f)[k*m+j]?=(f l[k])[j]?
 | [],k,_,hk,_=>by simp at hk
 | a :: l,0,j,_,hj=>by
   rw[aU,Nat.zero_mul,a_,List.getElem?_append_left (by rw[hf];exact hj)]
   rfl
 | a :: l,k+1,j,hk,hj=>by
   rw[aU,List.getElem?_append_right (by rw[hf,Nat.add_mul];omega),hf,show (k+1)*m+j-m=k*m+j by rw[Nat.add_mul];omega]
   rw[flat_get f m hf l k j (by simpa using hk) hj]
   rfl
theorem fA {α β:Type} (f:α→List β) (m:Nat) (hf:∀ a,(f a).length=m):∀ (l:List α),(l.flatMap f).length=l.length*m
 | []=>by simp
 | a :: l=>by rw[aU,aD,hf,fA f m hf l,aL,Nat.add_mul];omega
section
variable {P:Program} {t e:TypeId} {size bytes:Nat} {z:Value} {V:Nat→Prop}
theorem nY (E:Elem P t e size bytes z) (w:World) (ty:Nat) (v:Value) (n:Nat) (xs:List Value) (hown:Own w V e size v n xs)
 (B:Nat) (A:Option Addr) (m c:Nat) (news:List Value) (hr:Reads w B size A m news) (h1:∀ u∈news,u.oneCell'=true)
 (hbytes:(n+m)*bytes≤140737488355328) :
 ∃ v' w',(Builtin.append_ #[t,t] ty #[v,.slice A m c]).run P w=.ok v' w'∧Own w' (Ext V w w') e size v' (n+m) (xs++news)∧Just V w w'∧Own w' V e size v n xs:=by
 obtain⟨i,hi,hz,hs,hb⟩:=E.info
 have h63:n+m≤maxLen:=by
  have:=Nat.le_mul_of_pos_right (n+m) E.bpos
  simp only[maxLen];omega
 by_cases hm0:m=0
 ·have hsrc:=hr.src (c:=c) E hm0
  subst hm0
  obtain rfl:news=[]:=aJ (by simpa using hr.1)
  obtain⟨A',c',rfl,_,hnc,_⟩:=hown.reads
  have:=run_append_nothing (P:=P) w t t ty e i E.und hi A' n c' hnc (.slice A 0 c) (by rw[hs];exact hsrc)
  refine⟨_,w,this,?_,Just.bJ (Grow.refl w),hown⟩
  rw[bf]
  exact hown.mono fun b hb => .inl hb
 ·obtain⟨ad,rfl,_,hc⟩:=hr.2 al
  have fin:∀ v' w',w'.ownsRow w.heap.size e size v' (n+m) (xs++news)→w.grownBy w' none→Own w' (Ext V w w') e size v' (n+m) (xs++news)∧Just V w w'∧Own w' V e size v n xs:=fun v' w' r1 r2=>by
   refine⟨.rG r1 fun g' hg'=>?_,⟨r2.os,r2.tape,r2.output,r2.size,fun k hk _=>r2.block k hk (by simp)⟩,?_⟩
   ·have h1:=r1.lt g' hg'
    rcases r1.2 with ⟨hv',_⟩|⟨g2,_,_,hv',hb',_⟩
    ·rw[hv'] at hg';cases hg'
    ·rw[hv'] at hg';injection hg' with hg'
     subst hg'
     exact .inr ⟨hb',h1.2⟩
   ·refine⟨hown.1,?_⟩
    rcases hown.2 with h2|⟨g,cap,cur,h1,h2,h3,h4⟩
    ·exact .inl h2
    ·exact .inr ⟨g,cap,cur,h1,h2,(r2.block g (Array.getElem?_eq_some_iff.1 h3).1 (by simp)).trans h3,h4⟩
  rcases hown.2 with ⟨rfl,rfl⟩|⟨g,cap,cur,rfl,hV,hg,hnc,hcm,hsz,htk⟩
  ·obtain rfl:xs=[]:=aJ (by simpa using hown.1)
   obtain⟨v',w',hrun,r1,r2,_⟩:=run_append_own_at (P:=P) w w.heap.size t ty e i z size bytes E.und hi hz hs hb E.zs E.pos (ai none 0 0) 0 [] (World.ownsRow_nil w _ e size) ad m c news hr.1 hc h1 h63 hbytes (aC _)
   exact⟨v',w',hrun,fin v' w' r1 r2⟩
  ·by_cases hroom:n+m≤cap
   ·have hcs:cur.size=cap*size:=by
     rcases hsz with h|⟨h,_⟩
     ·exact h
     ·omega
    have hfit:n*i.size+news.length≤cur.size:=by rw[hs,hr.1,hcs,←Nat.add_mul];exact bm _ hroom
    have hrr:=run_append_room (P:=P) w t ty e i E.und hi g n cap cur hg ad m c news (by rw[hs];exact hr.1) hc h1 hroom hfit
    rw[hs] at hrr hfit
    have hlen:(xs++news).length=(n+m)*size:=by rw[aD,hown.1,hr.1,Nat.add_mul]
    have hset:=setRow_heap w g cur (cur.toList.take (n*size)++news++cur.toList.drop (n*size+news.length)).toArray e (0,0) hg
    have hsz2:(cur.toList.take (n*size)++news++cur.toList.drop (n*size+news.length)).toArray.size=cap*size:=by
     simp only[bH,aD,aK,bh,bG]
     omega
    refine⟨_,_,hrr,⟨hlen,.inr ⟨g,cap,_,rfl,.inl hV,hset,hroom,hcm,.inl hsz2,?_⟩⟩,⟨rfl,rfl,rfl,by simp,fun k _ hk=>setRow_other w g k _ (fun e=>hk (by rw[e];exact hV))⟩,⟨hown.1,.inr ⟨g,cap,_,rfl,hV,hset,hnc,hcm,.inl hsz2,?_⟩⟩⟩
    ·rw[List.toList_toArray,htk,←hlen]
     exact List.take_left
    ·rw[List.toList_toArray,htk,aM,←hown.1]
     exact List.take_left
   ·obtain⟨A',c',hv,hrd,_,_⟩:=hown.reads
    have holds:∀ j u,xs[j]?=some u→w.cell? ((⟨g,0,none⟩:Addr).add j)=some u:=by
     intro j u hu
     have hlt:0<n:=by
      rcases bj n with h0|h0
      ·have:xs.length=0:=by rw[hown.1,h0];simp
       rw[aJ this] at hu;simp at hu
      ·exact h0
     obtain⟨Jv,e',_,hc'⟩:=hrd.2 hlt
     injection hv with hv
     rw[←hv] at e';injection e' with e'
     rw[e'];exact hc' j u hu
    obtain⟨v',w',hrun,r1,r2⟩:=run_append_arg_grows (P:=P) w t ty e i z size bytes E.und hi hz hs hb E.zs E.pos ⟨g,0,none⟩ n cap xs hown.1 holds ad m c news hr.1 hc al h63 hbytes
    exact⟨v',w',hrun,fin v' w' r1 r2⟩
end
section
variable {P:Program} {ops:Array Oper} {A:Nat→List Nat} {K:Nat→Kind} {S:cQ} {w0:World} {T:Act→World→Prop} {o:Oper} {l:List Oper} {j n:Nat} {a0:Act} {L:List (Tmp×Value)} {F:List (Nat×Value×Fact)}
theorem mP (d:Tmp) (hd:o.dst=some d) (hs:d<n) (hw:Wanted ops o a0 L true) (hk:K j=none) (hm:dI j S.muts 0=none) (x y z:Operand) (vx vy vz:Value) (hx:ji a0 L x=vx) (hy:ji a0 L y=vy) (hz:ji a0 L z=vz) (v0:Value)
 (hr:∀ ρ:Operand→Value,ρ x=vx→ρ y=vy→ρ z=vz→∀ k w,S.G w0 w→S.before j k w→dd (A j) k F w→(execOp ρ o).run P w=.ok (.value v0) w)
 (h:dn P ops A K S w0 T n l (j+1) a0 ((d,v0) :: L) F):dn P ops A K S w0 T n (o :: l) j a0 L F:=
 lz d hd hs hw hk hm v0 (hr _ hx hy hz) h
end
theorem Own.grows {w w':World} {V:Nat→Prop} {e size n:Nat} {v:Value} {xs:List Value} (h:Own w V e size v n xs) (hg:Grow w w'):Own w' V e size v n xs:=by
 refine⟨h.1,?_⟩
 rcases h.2 with h2|⟨g,cap,cur,h1,h2,h3,h4⟩
 ·exact .inl h2
 ·exact .inr ⟨g,cap,cur,h1,h2,(hg.block g (Array.getElem?_eq_some_iff.1 h3).1).trans h3,h4⟩
theorem jE {P:Program} {w:World} {S:cQ} {j k:Nat} {φ:Fact} {r:Result Next} (t:Nat) (hm:dI j S.muts 0=some t) (h:cz P (fun u w'=>S.T k w w'∧S.I (k+1) w'∧φ (k+1) u w') r):cz P (fun u w'=>S.behind j k w w'∧φ (S.next j k) u w') r:=
 eN h fun _ _ ⟨hg,hi,hp⟩=>⟨iZ t hm hg hi,by rw[qD t hm];exact hp⟩
def qE (V:Nat→Prop) (e size:Nat) (v:Value) (n:Nat) (xs:List Value) (m1:Nat) (st:List (Nat×Nat)):cQ where
 G:=Just V
 T:=fun _=>Just V
 I:=fun _ w=>Own w V e size v n xs
 muts:=[m1]
 stage:=fun j=>if j=m1 then some 0 else st.lookup j
theorem Bt {V:Nat→Prop} {e size n:Nat} {v:Value} {xs:List Value} {m1:Nat} {st:List (Nat×Nat)}:(qE V e size v n xs m1 st).Ok:=
 ⟨fun _ _ _=>Just.trans,fun _ _ h=>Just.bJ h,fun _ _ _ h=>h,fun _ _ _ h hg=>h.grows hg⟩
def Once (φ:Value→World→Prop):Fact:=fun k u w=>match k with
 | 0=>False
 | _=>φ u w
def Early (φ:Value→World→Prop):Fact:=fun k u w=>match k with
 | 0=>φ u w
 | _=>True
theorem vl {V:Nat→Prop} {e size n:Nat} {v:Value} {xs:List Value} {m1:Nat} {st:List (Nat×Nat)} {φ:Value→World→Prop} (h:dv φ):jl (qE V e size v n xs m1 st) (Once φ):=fun k u w w' hu=>by
 cases k with
 | zero=>exact hu.elim
 | succ k=>exact⟨fun hg=>h u w w' hu hg,fun hk=>by simp[qE] at hk⟩
theorem t8 {V:Nat→Prop} {e size n:Nat} {v:Value} {xs:List Value} {m1:Nat} {st:List (Nat×Nat)} {φ:Value→World→Prop} (h:dv φ):jl (qE V e size v n xs m1 st) (Early φ):=fun k u w w' hu=>by
 cases k with
 | zero=>exact⟨fun hg=>h u w w' hu hg,fun _ _=>trivial⟩
 | succ k=>exact⟨fun _=>trivial,fun _ _=>trivial⟩
theorem Bu {φ:Value→World→Prop} {k:Nat} {u:Value} {w:World} (h:φ u w):Early φ k u w:=by
 cases k with
 | zero=>exact h
 | succ k=>exact trivial
theorem rH (w:World) (cs:Array Value) (e n:Nat) (l:List UInt8) (h:cs.size=n*1) (hc:cs.toList=gn l) (hn:n≤maxLen):bZ l (.slice (some ⟨w.heap.size,0,none⟩) n n) (w.alloc (.cells cs e)):=
 ⟨_,n,n,rfl,by have:=df w cs e (0,0) h _ rfl;rw[hc] at this;exact Reads.more this (by simp),aC _,hn⟩
def In (w:World) (V:Nat→Prop) (size:Nat) (A:Option Addr) (n:Nat) (xs:List Value):Prop:=
 xs.length=n*size∧(0<n→∃ ad,A=some ad∧V ad.block∧ad.block<w.heap.size∧∀ j u,xs[j]?=some u→w.cell? (ad.add j)=some u)
section
variable {w w':World} {V V' U:Nat→Prop} {size n:Nat} {A:Option Addr} {xs:List Value}
theorem In.nil:In w V size A 0 []:=⟨by simp,fun h=>absurd h al⟩
theorem In.mono (h:In w V size A n xs) (hV:∀ b,V b→V' b):In w V' size A n xs:=
 ⟨h.1,fun hn=>by obtain⟨ad,e,hv,hb,hc⟩:=h.2 hn;exact⟨ad,e,hV _ hv,hb,hc⟩⟩
theorem In.keep (h:In w V size A n xs) (hk:∀ b,V b→b<w.heap.size→w'.heap[b]?=w.heap[b]?):In w' V size A n xs:=
 ⟨h.1,fun hn=>by
  obtain⟨ad,e,hv,hb,hc⟩:=h.2 hn
  have hs:ad.block<w'.heap.size:=by
   have h1:=hk _ hv hb
   rw[Array.getElem?_eq_getElem hb] at h1
   exact (Array.getElem?_eq_some_iff.1 h1).1
  exact⟨ad,e,hv,hs,fun j u hu=>by rw[World.cell?_of_block (a:=ad.add j) (w:=w) (by rw[block_add];exact hk _ hv hb)];exact hc j u hu⟩⟩
theorem In.grow (h:In w V size A n xs) (hg:Grow w w'):In w' V size A n xs:=h.keep fun b _ hb=>hg.block b hb
theorem In.just (h:In w V size A n xs) (hj:Just U w w') (hd:∀ b,V b→¬ U b):In w' V size A n xs:=h.keep fun b hv hb=>hj.block b hb (hd b hv)
theorem In.reads (h:In w V size A n xs):Reads w w.heap.size size A n xs:=
 ⟨h.1,fun hn=>by obtain⟨ad,e,_,hb,hc⟩:=h.2 hn;exact⟨ad,e,hb,hc⟩⟩
theorem Reads.fw {B:Nat} (h:Reads w B size A n xs) (hB:B≤w.heap.size) (hV:∀ b,b<B→V b):In w V size A n xs:=
 ⟨h.1,fun hn=>by obtain⟨ad,e,hb,hc⟩:=h.2 hn;exact⟨ad,e,hV _ hb,by omega,hc⟩⟩
theorem Own.fw {e:TypeId} {v:Value} (h:Own w V e size v n xs):∃ A c,v=.slice A n c∧In w V size A n xs∧n≤c∧c≤maxLen:=by
 rcases h.2 with ⟨rfl,rfl⟩|⟨g,cap,cur,rfl,hV,hg,hn,hm,_,_⟩
 ·exact⟨none,0,rfl,⟨h.1,fun hh=>absurd hh al⟩,aC _,aZ _⟩
 ·obtain⟨A,c,e1,hR,_,_⟩:=h.reads
  injection e1 with e1 e2 e3
  subst e1 e3
  refine⟨_,_,rfl,⟨h.1,fun hh=>?_⟩,hn,hm⟩
  obtain⟨ad,e,hb,hc⟩:=hR.2 hh
  injection e with e
  subst e
  exact⟨_,rfl,hV,hb,hc⟩
theorem In.take (h:In w V size A n xs) {k:Nat} (hk:k≤n):In w V size A k (xs.take (k*size)):=by
 refine⟨by rw[aK,h.1];exact bF (bm _ hk),fun hn=>?_⟩
 obtain⟨ad,rfl,hv,hb,hcell⟩:=h.2 al
 refine⟨ad,rfl,hv,hb,fun j u hu=>hcell j u ?_⟩
 rw[List.getElem?_take] at hu
 split at hu
 ·exact hu
 ·cases hu
theorem In.iS {α:Type} {cells:α→List Value} {q:List α} (h:In w V size A n (q.flatMap cells)) (hpos:0<size) (hl:∀ a,(cells a).length=size) {k:Nat} (hk:k<n) :
 ∃ (ad:Addr) (hq:k<q.length),A=some ad∧V ad.block∧ad.block<w.heap.size∧
   (∀ u,(cells q[k])[0]?=some u→w.cell? (ad.add (k*size))=some u)∧∀ j u,(cells q[k])[j+1]?=some u→w.cell? ⟨(ad.add (k*size)).block,(ad.add (k*size)).off+(j+1),none⟩=some u:=by
 obtain⟨ad,e,hv,hb,hc⟩:=h.2 al
 have gS:q.length=n:=by
  have:=h.1
  rw[fA cells size hl] at this
  exact Nat.eq_of_mul_eq_mul_right hpos this
 have hkl:k<q.length:=by omega
 have hp:∀ j,(⟨(ad.add (k*size)).block,(ad.add (k*size)).off+(j+1),none⟩:Addr)=ad.add (k*size+(j+1)):=fun j=>by
  rw[←add_add]
  generalize ad.add (k*size)=p
  unfold Addr.add
  rw[if_neg al]
 have hlt:∀ j u,(cells q[k])[j]?=some u→j<size:=fun j u hu=>by have:=(List.getElem?_eq_some_iff.1 hu).1;rw[hl] at this;exact this
 exact⟨ad,hkl,e,hv,hb,fun u hu=>hc (k*size) u ((flat_get cells size hl q k 0 hkl hpos).trans hu),fun j u hu=>by rw[hp j];exact hc _ u ((flat_get cells size hl q k (j+1) hkl (hlt _ _ hu)).trans hu)⟩
end
theorem di (w:World) (o:Obj):(w.alloc o).heap.size=w.heap.size+1:=by simp
theorem kT {α β:Type} (f:α→List β) (m:Nat) (hf:∀ a,(f a).length=m):∀ (q:List α) (k:Nat),(q.flatMap f).take (k*m)=(q.take k).flatMap f
 | q,0=>by simp
 | [],k+1=>by simp
 | a :: q,k+1=>by
   rw[aU,aV,aU,List.take_append,hf a,Nat.succ_mul,aN (by rw[hf];omega),show k*m+m-m=k*m by omega,kT f m hf q k]
theorem mQ {α β:Type} (f:α→List β) (m:Nat) (hf:∀ a,(f a).length=m):∀ (q:List α) (k:Nat),(q.flatMap f).drop (k*m)=(q.drop k).flatMap f
 | q,0=>by simp
 | [],k+1=>by simp
 | a :: q,k+1=>by
   rw[aU,ax,List.drop_append,hf a,Nat.succ_mul,bD (by rw[hf];omega),show k*m+m-m=k*m by omega,mQ f m hf q k,aR]
def Row (w:World) (V:Nat→Prop) (e:TypeId) (size:Nat) (v:Value) (n:Nat) (xs:List Value):Prop:=
 xs.length=n*size∧((v=ai none 0 0∧n=0)∨
  ∃ g cap cur,v=.slice (some ⟨g,0,none⟩) n cap∧V g∧w.heap[g]?=some (.cells cur e (0,0))∧n≤cap∧cap≤maxLen∧cur.size=cap*size∧cur.toList.take (n*size)=xs)
section
variable {w w':World} {V V':Nat→Prop} {e:TypeId} {size n:Nat} {v:Value} {xs:List Value}
theorem Row.own (h:Row w V e size v n xs):Own w V e size v n xs:=by
 refine⟨h.1,?_⟩
 rcases h.2 with h2|⟨g,cap,cur,h1,h2,h3,h4,h5,h6,h7⟩
 ·exact .inl h2
 ·exact .inr ⟨g,cap,cur,h1,h2,h3,h4,h5,.inl h6,h7⟩
theorem Row.owns (h:Row w V e size v n xs):w.ownsRow 0 e size v n xs∧∀ g,v.ownBlock=some g→V g:=by
 rcases h.2 with h2|⟨g,cap,cur,h1,h2,h3,h4,h5,h6,h7⟩
 ·refine⟨⟨h.1,.inl h2⟩,fun g hg=>?_⟩
  rw[h2.1] at hg;cases hg
 ·refine⟨⟨h.1,.inr ⟨g,cap,cur,h1,aZ _,h3,h4,h5,h6,h7⟩⟩,fun g' hg=>?_⟩
  rw[h1] at hg;injection hg with hg;rw[←hg];exact h2
theorem Row.of (h:w.ownsRow 0 e size v n xs) (hV:∀ g,v.ownBlock=some g→V g):Row w V e size v n xs:=by
 refine⟨h.1,?_⟩
 rcases h.2 with h2|⟨g,cap,cur,h1,_,h3⟩
 ·exact .inl h2
 ·exact .inr ⟨g,cap,cur,h1,hV g (by rw[h1];rfl),h3⟩
theorem Row.nil:Row w V e size (ai none 0 0) 0 []:=⟨by simp,.inl ⟨rfl,rfl⟩⟩
theorem Row.mono (h:Row w V e size v n xs) (hV:∀ b,V b→V' b):Row w V' e size v n xs:=by
 refine⟨h.1,?_⟩
 rcases h.2 with h2|⟨g,cap,cur,h1,h2,h3⟩
 ·exact .inl h2
 ·exact .inr ⟨g,cap,cur,h1,hV g h2,h3⟩
theorem Row.keep (h:Row w V e size v n xs) (hk:∀ b,V b→b<w.heap.size→w'.heap[b]?=w.heap[b]?):Row w' V e size v n xs:=by
 refine⟨h.1,?_⟩
 rcases h.2 with h2|⟨g,cap,cur,h1,h2,h3,h4⟩
 ·exact .inl h2
 ·exact .inr ⟨g,cap,cur,h1,h2,(hk g h2 (Array.getElem?_eq_some_iff.1 h3).1).trans h3,h4⟩
theorem Row.grow (h:Row w V e size v n xs) (hg:Grow w w'):Row w' V e size v n xs:=h.keep fun b _ hb=>hg.block b hb
theorem Row.just {U:Nat→Prop} (h:Row w V e size v n xs) (hj:Just U w w') (hd:∀ b,V b→¬ U b):Row w' V e size v n xs:=h.keep fun b hv hb=>hj.block b hb (hd b hv)
theorem Row.fw (h:Row w V e size v n xs):∃ A c,v=.slice A n c∧In w V size A n xs∧n≤c∧c≤maxLen:=h.own.fw
end
theorem eV (b:Nat) (e:TypeId) (mk:Nat×Nat):∀ (vs:List Value) (o:Nat) (w:World) (cur:Array Value),w.heap[b]?=some (.cells cur e mk)→o+vs.length≤cur.size→
 ∃ cur',(w.setCells b o vs).heap[b]?=some (.cells cur' e mk)∧cur'.size=cur.size∧cur'.toList=cur.toList.take o++vs++cur.toList.drop (o+vs.length)
 | [],o,w,cur,h,hl=>⟨cur,h,rfl,by simp⟩
 | v :: r,o,w,cur,h,hl=>by
   have h1:(w.setCell ⟨b,o,none⟩ v).heap[b]?=some (.cells (cur.setIfInBounds o v) e mk):=by simp[World.setCell,Array.getElem?_modify,h]
   simp only[aL] at hl
   obtain⟨cur',h2,h3,h4⟩:=eV b e mk r (o+1) (w.setCell ⟨b,o,none⟩ v) (cur.setIfInBounds o v) h1 (by simp;omega)
   refine⟨cur',h2,by rw[h3];simp,?_⟩
   rw[h4]
   have e1:(cur.setIfInBounds o v).toList=cur.toList.take o++v :: cur.toList.drop (o+1):=by
    rw[Array.toList_setIfInBounds,List.set_eq_take_append_cons_drop]
    rw[if_pos (by simp;omega)]
   have hto:(cur.toList.take o).length=o:=by rw[aK];simp;omega
   rw[e1,List.take_append,List.drop_append,hto]
   rw[aN (l:=cur.toList.take o) al,bD (l:=cur.toList.take o) al,show o+1-o=1 by omega,show o+1+r.length-o=r.length+1 by omega]
   simp only[aV,bw,ax,List.drop_drop,aR,aM,bA,aL]
   rw[show o+1+r.length=o+(r.length+1) by omega]
theorem dD (b:Nat):∀ (vs:List Value) (o:Nat) (w:World),Only b w (w.setCells b o vs)
 | [],_,w=>Only.refl b w
 | v :: r,o,w=>((Only.refl b w).put o v).trans (dD b r (o+1) _)
theorem setCells_size (b:Nat):∀ (vs:List Value) (o:Nat) (w:World),(w.setCells b o vs).heap.size=w.heap.size
 | [],_,_=>rfl
 | v :: r,o,w=>(setCells_size b r (o+1) _).trans (dw w _ v)
section
variable {P:Program} {t e:TypeId} {size bytes:Nat} {z:Value} {V:Nat→Prop}
theorem h_ (E:Elem P t e size bytes z) (hv:∀ w,(zeroValue e).run P w=.ok z w) (h1:∀ u∈z.cells.toList,u.oneCell'=true) (w:World) (ty:TypeId) (b o n c:Nat) (hn:0<n)
 (hc:∀ j,j<n*size→(w.cell? ⟨b,o+j,none⟩).isSome=true) (hf:∀ j,j<n*size→w.frozen? ⟨b,o+j,none⟩=false) :
 (Builtin.clear_ #[t] ty #[.slice (some ⟨b,o,none⟩) n c]).run P w=.ok (.tuple #[]) (w.setCells b o (Builtin.zeroCells z.cells n).toList):=by
 have hl:(Builtin.zeroCells z.cells n).toList.length=n*size:=by rw[bG,size_zeroCells,E.zs]
 have hst:=run_storeCells_cells (P:=P) b o (Builtin.zeroCells z.cells n).toList 0 w (by rw[hl];simpa using hc) (by rw[hl];simpa using hf) (fun v hv'=>by
  have:v∈Builtin.zeroCells z.cells n:=Array.mem_toList_iff.1 hv'
  unfold Builtin.zeroCells at this
  obtain⟨i,_,rfl⟩:=Array.mem_map.1 this
  have hz:0<z.cells.size:=by rw[E.zs];exact E.pos
  refine h1 _ ?_
  rw[getElem!_pos z.cells (i % z.cells.size) (Nat.mod_lt _ hz)]
  exact Array.mem_toList_iff.2 (Array.getElem_mem _))
 simp only[Nat.add_zero] at hst
 obtain⟨m,rfl⟩:∃ m,n=m+1:=⟨n-1,by omega⟩
 simp[Builtin.clear_,run_underlying E.und,hv,hst]
theorem kv (E:Elem P t e size bytes z) (w:World) (ty:Nat) (v:Value) (n:Nat) (xs:List Value) (hown:Row w V e size v n xs)
 (B:Nat) (A:Option Addr) (m c:Nat) (news:List Value) (hr:Reads w B size A m news) (h1:∀ u∈news,u.oneCell'=true) (hbytes:(n+m)*bytes≤140737488355328) :
 ∃ v' w',(Builtin.append_ #[t,t] ty #[v,.slice A m c]).run P w=.ok v' w'∧Row w' (Ext V w w') e size v' (n+m) (xs++news)∧Just V w w':=by
 obtain⟨ho,hV⟩:=hown.owns
 obtain⟨v',w',hrun,h2,h3,h4⟩:=jj E w 0 ty v n xs ho B A m c news hr h1 hbytes (aZ _)
 refine⟨v',w',hrun,.of h2 fun g hg=>?_,⟨h3.os,h3.tape,h3.output,h3.size,fun k hk hv=>h3.block k hk (fun e=>hv (hV k e.symm))⟩⟩
 rcases h4 with h4|h4
 ·exact .inl (hV g (by rw[←h4,hg]))
 ·rw[hg] at h4;injection h4 with h4
  have:=h2.lt g hg
  exact .inr ⟨by omega,this.2⟩
theorem eD (E:Elem P t e size bytes z) (w:World) {ops:Array Oper} {rest:List Oper} {o:Oper} {a:Act} {Q:Exit→Act→World→Prop} (hw:Region.wanted o (yielded ops a.tmps)=true) (s x:Operand)
 (ho:o.op=.call { callee := .builtin .append,args:=#[s,x],argTypes:=#[t,t] })
 (v:Value) (n:Nat) (xs:List Value) (hs:a.eval s=v) (hown:Row w V e size v n xs)
 (B:Nat) (A:Option Addr) (m c:Nat) (news:List Value) (hx:a.eval x=.slice A m c) (hr:Reads w B size A m news) (h1:∀ u∈news,u.oneCell'=true)
 (hbytes:(n+m)*bytes≤140737488355328)
 (h:∀ v' w',Row w' (Ext V w w') e size v' (n+m) (xs++news)→Just V w w'→wpList P ops Q rest (a.put o.dst v') w') :
 wpList P ops Q (o :: rest) a w:=by
 obtain⟨v',w',hrun,h2,h3⟩:=kv E w o.type v n xs hown B A m c news hr h1 hbytes
 unfold wpList
 rw[if_pos hw]
 refine .inl ?_
 unfold Oper.wp execOp
 simp only[ho,resolve,invoke,builtin,Sem.run_bind,Sem.run_pure,Result.andThen_ok,List.map_toArray,bg,List.map_nil,hs,hx,hrun]
 exact h v' w' h2 h3
theorem fm (E:Elem P t e size bytes z) {w:World} {o:Oper} {ρ:Operand→Value} {R:Value→World→Prop} {s x:Operand} (ho:o.op=.call { callee := .builtin .append,args:=#[s,x],argTypes:=#[t,t] })
 {v:Value} {n:Nat} {xs:List Value} (hs:ρ s=v) (hown:Row w V e size v n xs) {B:Nat} {A:Option Addr} {m c:Nat} {news:List Value} (hx:ρ x=.slice A m c) (hr:Reads w B size A m news) (h1:∀ u∈news,u.oneCell'=true)
 (hbytes:(n+m)*bytes≤140737488355328) (h:∀ v' w',Row w' (Ext V w w') e size v' (n+m) (xs++news)→Just V w w'→R v' w'):cz P R ((execOp ρ o).run P w):=by
 obtain⟨v',w',hrun,h2,h3⟩:=kv E w o.type v n xs hown B A m c news hr h1 hbytes
 refine cF (u:=v') (w:=w') ?_ (h v' w' h2 h3)
 unfold execOp
 simp only[ho,resolve,invoke,builtin,Sem.run_bind,Sem.run_pure,Result.andThen_ok,List.map_toArray,bg,List.map_nil,hs,hx,hrun]
end
section
variable {P:Program} {t e:TypeId} {size bytes:Nat} {z:Value}
theorem Reads.GU {w:World} {B m c:Nat} {A:Option Addr} {news:List Value} (E:Elem P t e size bytes z) (hr:Reads w B size A m news) (h1:∀ u∈news,u.oneCell'=true):Src P size t (.slice A m c) m news w:=by
 by_cases hm:m=0
 ·have:=hr.src (c:=c) E hm
  subst hm
  obtain rfl:news=[]:=aJ (by simpa using hr.1)
  exact this
 ·obtain⟨ad,rfl,_,hc⟩:=hr.2 al
  exact Src.ofSlice w E.und ad m c news hr.1 hc h1
theorem kb (E:Elem P t e size bytes z) (w:World) (ty:Nat) {g k c m c2 B:Nat} {cur:Array Value} {A:Option Addr} {news:List Value} (hg:w.heap[g]?=some (.cells cur e (0,0))) (hr:Reads w B size A m news) (h1:∀ u∈news,u.oneCell'=true)
 (hroom:k+m≤c) (hs:(k+m)*size≤cur.size) :
 (Builtin.append_ #[t,t] ty #[.slice (some ⟨g,0,none⟩) k c,.slice A m c2]).run P w=.ok (.slice (some ⟨g,0,none⟩) (k+m) c) (w.setCells g (k*size) news):=by
 obtain⟨i,hi,_,hsz,_⟩:=E.info
 have hsrc:Src P i.size t (.slice A m c2) m news w:=by rw[hsz];exact hr.GU E h1
 have hl:=hr.1
 have hle:k*size+m*size≤cur.size:=by rw[←Nat.add_mul];exact hs
 have:=run_append_room_src (P:=P) w t t ty e i E.und hi g 0 k c (.slice A m c2) m news hsrc hroom (fun j hj=>by
  rw[cell_of_row w g _ cur e (0,0) hg,hsz,Array.getElem?_eq_getElem al];rfl) (fun j hj=>ct.frozen (show ct w g e cur from hg) _)
 rw[hsz,a_] at this
 exact this
theorem oG (E:Elem P t e size bytes z) (w:World):(zeroValue e).run P w=.ok z w:=by
 obtain⟨i,hi,hz,_,_⟩:=E.info
 simp[zeroValue,typeInfo,hi,hz]
theorem ky {w:World} {ops:Array Oper} {rest:List Oper} {o:Oper} {a:Act} {Q:Exit→Act→World→Prop} (hw:Region.wanted o (yielded ops a.tmps)=true) (s x:Operand) {tx:TypeId}
 (ho:o.op=.call { callee := .builtin .append,args:=#[s,x],argTypes:=#[t,tx] }) {vs vx v':Value} {w':World} (hs:a.eval s=vs) (hx:a.eval x=vx)
 (hrun:(Builtin.append_ #[t,tx] o.type #[vs,vx]).run P w=.ok v' w') (h:wpList P ops Q rest (a.put o.dst v') w'):wpList P ops Q (o :: rest) a w:=by
 unfold wpList
 rw[if_pos hw]
 refine .inl ?_
 unfold Oper.wp execOp
 simp only[ho,resolve,invoke,builtin,Sem.run_bind,Sem.run_pure,Result.andThen_ok,List.map_toArray,bg,List.map_nil,hs,hx,hrun]
 exact h
end
theorem lp {P:Program} {R:Value→World→Prop} {r:Result Next} {w':World} (hr:r=.ok .skip w') (h:R undef w'):cz P R r:=by rw[hr];exact h
theorem fh (w:World) (x i:Nat) (u:Value):Just (fun b=>b=x) w (w.setCell ⟨x,i,none⟩ u):=(Just.bJ (Grow.refl w)).put (V:=fun b=>b=x) rfl i u
section
variable {P:Program} {t e:TypeId} {size bytes:Nat} {z:Value}
end
end Go.Hop
end
section
namespace Go.Proofs.YtmijcbfgfkeodaaGreatDoor
open Go.RowKit Go.Hop
abbrev Dl:=ByteArray×Nat
def oH (d:Dl):List Value:=[.string d.1,ae ah (d.2:Int)]
def eE (l:List Dl):List Value:=l.flatMap oH
theorem kU (d:Dl):(oH d).length=2:=rfl
theorem lA (l:List Dl):∀ u∈eE l,u.oneCell'=true:=by
 intro u hu
 unfold eE at hu
 obtain⟨d,_,hd⟩:=List.mem_flatMap.1 hu
 simp only[oH,aF,aE,or_false] at hd
 rcases hd with rfl|rfl<;>rfl
theorem lB (l:List Dl):(eE l).length=l.length*2:=fA oH 2 kU l
def New (w w':World) (b:Nat):Prop:=w.heap.size≤b∧b<w'.heap.size
theorem info_parts {e size bytes:Nat} {z:Value} (h:(Tryz.prog.info? e).map (fun i=>(i.zero,i.size,i.bytes))=some (some z,size,bytes)):∃ i,Tryz.prog.info? e=some i∧i.zero=some z∧i.size=size∧i.bytes=bytes:=by
 cases hi:Tryz.prog.info? e with
 | none=>rw[hi] at h;cases h
 | some i=>rw[hi] at h;injection h with h;injection h with h1 h2;injection h2 with h2 h3;exact⟨i,rfl,h1,h2,h3⟩
theorem vm:(Tryz.prog.info? 29).map (fun i=>(i.zero,i.size,i.bytes))=some (some (.agg #[.string .empty,ae ah 0]),2,24):=by kernel_rfl
theorem vn:Elem au 30 29 2 24 (.agg #[.string .empty,ae ah 0]):=⟨Tryz.underlying30,info_parts vm,rfl,by decide,by decide⟩
def fV (w:World) (V:Nat→Prop) (A:Option Addr) (n:Nat) (l:List Dl):Prop:=In w V 2 A n (eE l)
theorem fV.len {w:World} {V:Nat→Prop} {A:Option Addr} {n:Nat} {l:List Dl} (h:fV w V A n l):l.length=n:=by
 have:=h.1;rw[lB] at this;omega
theorem i_ {w w1:World} {t e:TypeId} {size:Nat} {v:Value} {n:Nat} {xs:List Value} (hO:Own w1 (Ext (fun b=>b=w.heap.size) (w.alloc (.cells #[] t)) w1) e size v n xs) (hj:Just (fun b=>b=w.heap.size) (w.alloc (.cells #[] t)) w1):Own w1 (New w w1) e size v n xs∧Grow w w1:=by
 have hs:w.heap.size<w1.heap.size:=by have:=hj.size;simp at this;omega
 refine⟨hO.mono (fun b hb=>?_),((Below.refl w.heap.size w).alloc (aC _) (.cells #[] t)).trans (hj.below (B:=w.heap.size) (fun b hb=>by rw[hb];exact aC _) (by simp))⟩
 rcases hb with rfl|⟨h1,h2⟩
 ·exact⟨aC _,hs⟩
 ·simp at h1;exact⟨by omega,h2⟩
theorem fO (w:World) (e:TypeId) (size:Nat):Own (w.alloc (.cells #[] e)) (fun b=>b=w.heap.size) e size (.slice (some ⟨w.heap.size,0,none⟩) 0 0) 0 []:=
 ⟨by simp,.inr ⟨w.heap.size,0,#[],rfl,rfl,heap_alloc_new w _,aC _,aZ _,.inl (by simp),by simp⟩⟩
end Go.Proofs.YtmijcbfgfkeodaaGreatDoor
end
