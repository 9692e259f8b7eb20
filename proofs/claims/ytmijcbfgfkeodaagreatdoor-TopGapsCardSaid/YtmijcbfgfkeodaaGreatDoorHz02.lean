/- Own, Own2, Recs, Kit, Dlt, Lb, Slt. -/
import Derived.Test.YtmijcbfgfkeodaaGreatDoorHz01
import Derived.Deep.Upon
import Derived.Laws.IdiomStrings
import Derived.Laws.BytesArg
import Derived.Lib.SliceRun
import Derived.Test.YtmijcbfgfkeodaaGreatDoorProg
import Derived.Sort.Walk0
set_option linter.all false
set_option maxRecDepth 100000
section
namespace Go.Hop
open Go.RowKit
def Own (w:World) (V:Nat→Prop) (e:TypeId) (size:Nat) (v:Value) (n:Nat) (xs:List Value):Prop:=
 xs.length=n*size∧((v=.slice none 0 0∧n=0)∨
  ∃ g cap cur,v=.slice (some ⟨g,0,none⟩) n cap∧V g∧w.heap[g]?=some (.cells cur e (0,0))∧n≤cap∧cap≤maxLen∧(cur.size=cap*size∨(cap=n∧n*size≤cur.size))∧cur.toList.take (n*size)=xs)
def Ext (V:Nat→Prop) (w w':World) (b:Nat):Prop:=V b∨(w.heap.size≤b∧b<w'.heap.size)
section
variable {w w':World} {V V':Nat→Prop} {e:TypeId} {size n:Nat} {v:Value} {xs:List Value}
theorem Own.nil:Own w V e size (.slice none 0 0) 0 []:=⟨by simp,.inl ⟨rfl,rfl⟩⟩
theorem Own.mono (h:Own w V e size v n xs) (hV:∀ b,V b→V' b):Own w V' e size v n xs:=by
 refine⟨h.1,?_⟩
 rcases h.2 with h2|⟨g,cap,cur,h1,h2,h3⟩
 ·exact .inl h2
 ·exact .inr ⟨g,cap,cur,h1,hV g h2,h3⟩
theorem Own.keep (h:Own w V e size v n xs) (hk:∀ b,V b→w'.heap[b]?=w.heap[b]?):Own w' V e size v n xs:=by
 refine⟨h.1,?_⟩
 rcases h.2 with h2|⟨g,cap,cur,h1,h2,h3,h4⟩
 ·exact .inl h2
 ·exact .inr ⟨g,cap,cur,h1,h2,(hk g h2).trans h3,h4⟩
theorem Own.of_row {base:Nat} (h:w.ownsRow base e size v n xs) (hV:∀ g,v.ownBlock=some g→V g):Own w V e size v n xs:=by
 refine⟨h.1,?_⟩
 rcases h.2 with h2|⟨g,cap,cur,h1,_,h3,h4,h5,h6,h7⟩
 ·exact .inl h2
 ·exact .inr ⟨g,cap,cur,h1,hV g (by rw[h1];rfl),h3,h4,h5,.inl h6,h7⟩
theorem Own.reads (h:Own w V e size v n xs):∃ A c,v=.slice A n c∧Reads w w.heap.size size A n xs∧n≤c∧c≤maxLen:=by
 rcases h.2 with ⟨rfl,rfl⟩|⟨g,cap,cur,rfl,_,hg,hn,hm,hsz,htk⟩
 ·exact⟨none,0,rfl,⟨h.1,fun hh=>absurd hh (by omega)⟩,Nat.le_refl _,Nat.zero_le _⟩
 ·refine⟨_,cap,rfl,⟨h.1,fun _=>⟨_,rfl,(Array.getElem?_eq_some_iff.1 hg).1,fun j u hu=>?_⟩⟩,hn,hm⟩
  have hadd:(⟨g,0,none⟩:Addr).add j=⟨g,j,none⟩:=by unfold Addr.add;split<;>simp_all
  rw[hadd,cell_of_row _ _ _ _ _ _ hg]
  rw[←htk,List.getElem?_take] at hu
  split at hu
  ·simpa using hu
  ·cases hu
theorem Own.cut {A:Option Addr} {c k:Nat} (h:Own w V e size (.slice A n c) n xs) (hk:k≤n):Own w V e size (.slice A k k) k (xs.take (k*size)):=by
 have hks:k*size≤n*size:=Nat.mul_le_mul_right _ hk
 refine⟨by rw[List.length_take,h.1];exact Nat.min_eq_left hks,?_⟩
 rcases h.2 with ⟨h1,rfl⟩|⟨g,cap,cur,h1,hV,hg,hn,hm,hsz,htk⟩
 ·injection h1 with h1 h2 h3
  subst h1
  obtain rfl:k=0:=by omega
  exact .inl ⟨rfl,rfl⟩
 ·injection h1 with h1 h2 h3
  subst h1;subst h3
  refine .inr ⟨g,k,cur,rfl,hV,hg,Nat.le_refl _,by omega,.inr ⟨rfl,?_⟩,?_⟩
  ·have:=Nat.mul_le_mul_right size hn
   rcases hsz with hsz|⟨_,hsz⟩<;>omega
  ·rw[←htk,List.take_take,Nat.min_eq_left hks]
theorem Own.put (h:Own w V e size v n xs) {g:Nat} (hg:¬ V g) (i:Nat) (u:Value):Own (w.setCell ⟨g,i,none⟩ u) V e size v n xs:=
 h.keep fun b hb=>Below.heap_setCell w ⟨g,i,none⟩ u b (fun e=>hg (by rw[←show b=g from e];exact hb))
theorem Own.grow (h:Own w V e size v n xs) (hV:∀ b,V b→b<w.heap.size) (hg:Grow w w'):Own w' V e size v n xs:=h.keep fun b hb=>hg.block b (hV b hb)
theorem setCell_size (w:World) (p:Addr) (u:Value):(w.setCell p u).heap.size=w.heap.size:=by simp[World.setCell]
theorem Just.put {a b:World} (h:Just V a b) {g:Nat} (hg:V g) (i:Nat) (u:Value):Just V a (b.setCell ⟨g,i,none⟩ u):=
 h.trans (Just.of_only ((Only.refl g b).put i u) hg)
end
section
variable {P:Program} {t e:TypeId} {size bytes:Nat} {z:Value} {V:Nat→Prop}
theorem Reads.src {w:World} {B m c:Nat} {A:Option Addr} {news:List Value} (E:Elem P t e size bytes z) (hr:Reads w B size A m news) (hm:m=0):Src P size t (.slice A m c) 0 [] w:=by
 subst hm
 cases A with
 | none=>exact Src.ofNil w E.und c
 | some ad=>exact Src.ofSlice w E.und ad 0 c [] (by simp) (by simp) (by simp)
theorem run_append_Own (E:Elem P t e size bytes z) (w:World) (ty:Nat) (v:Value) (n:Nat) (xs:List Value) (hown:Own w V e size v n xs)
 (B:Nat) (A:Option Addr) (m c:Nat) (news:List Value) (hr:Reads w B size A m news) (h1:∀ u∈news,u.oneCell'=true)
 (hbytes:(n+m)*bytes≤140737488355328) :
 ∃ v' w',(Builtin.append_ #[t,t] ty #[v,.slice A m c]).run P w=.ok v' w'∧Own w' (Ext V w w') e size v' (n+m) (xs++news)∧Just V w w':=by
 have whole:w.ownsRow 0 e size v n xs→(∀ g,v.ownBlock=some g→V g)→∃ v' w',(Builtin.append_ #[t,t] ty #[v,.slice A m c]).run P w=.ok v' w'∧Own w' (Ext V w w') e size v' (n+m) (xs++news)∧Just V w w':=fun ho hV=>by
  obtain⟨v',w',hrun,h2,h3,h4⟩:=run_append_reads E w 0 ty v n xs ho B A m c news hr h1 hbytes (Nat.zero_le _)
  refine⟨v',w',hrun,.of_row h2 fun g hg=>?_,⟨h3.os,h3.tape,h3.output,h3.size,fun k hk hv=>h3.block k hk (fun e=>hv (hV k e.symm))⟩⟩
  rcases h4 with h4|h4
  ·exact .inl (hV g (by rw[←h4,hg]))
  ·rw[hg] at h4;injection h4 with h4
   have:=h2.lt g hg
   exact .inr ⟨by omega,this.2⟩
 rcases hown.2 with ⟨rfl,rfl⟩|⟨g,cap,cur,rfl,hV,hg,hn,hm,hsz,htk⟩
 ·exact whole ⟨hown.1,.inl ⟨rfl,rfl⟩⟩ (fun g hg=>by cases hg)
 ·rcases hsz with hsz|⟨rfl,hsz⟩
  ·exact whole ⟨hown.1,.inr ⟨g,cap,cur,rfl,Nat.zero_le _,hg,hn,hm,hsz,htk⟩⟩ (fun g' hg'=>by injection hg' with hg';rw[←hg'];exact hV)
  ·obtain⟨i,hi,hz,hs,hb⟩:=E.info
   by_cases hm0:m=0
   ·have hsrc:=hr.src (c:=c) E hm0
    subst hm0
    obtain rfl:news=[]:=List.eq_nil_of_length_eq_zero (by simpa using hr.1)
    have:=run_append_nothing (P:=P) w t t ty e i E.und hi (some ⟨g,0,none⟩) cap cap (Nat.le_refl _) (.slice A 0 c) (by rw[hs];exact hsrc)
    refine⟨_,w,this,?_,Just.of_grow (Grow.refl w)⟩
    rw[List.append_nil]
    exact hown.mono fun b hb => .inl hb
   ·obtain⟨ad,rfl,_,hc⟩:=hr.2 (by omega)
    obtain⟨A',c',hv,hrd,_,_⟩:=hown.reads
    have h63:cap+m≤maxLen:=by
     have:=Nat.le_mul_of_pos_right (cap+m) E.bpos
     simp only[maxLen];omega
    have holds:∀ j u,xs[j]?=some u→w.cell? ((⟨g,0,none⟩:Addr).add j)=some u:=by
     intro j u hu
     have hlt:0<cap:=by
      rcases Nat.eq_zero_or_pos cap with h0|h0
      ·have:xs.length=0:=by rw[hown.1,h0];simp
       rw[List.eq_nil_of_length_eq_zero this] at hu;simp at hu
      ·exact h0
     obtain⟨ad',e',_,hc'⟩:=hrd.2 hlt
     injection hv with hv
     rw[←hv] at e';injection e' with e'
     rw[e'];exact hc' j u hu
    obtain⟨v',w',hrun,r1,r2⟩:=run_append_arg_grows (P:=P) w t ty e i z size bytes E.und hi hz hs hb E.zs E.pos ⟨g,0,none⟩ cap cap xs hown.1 holds ad m c news hr.1 hc (by omega) h63 hbytes
    refine⟨v',w',hrun,.of_row r1 fun g' hg'=>?_,⟨r2.os,r2.tape,r2.output,r2.size,fun k hk _=>r2.block k hk (by simp)⟩⟩
    have h1:=r1.lt g' hg'
    rcases r1.2 with ⟨hv',_⟩|⟨g2,_,_,hv',hb',_⟩
    ·rw[hv'] at hg';cases hg'
    ·rw[hv'] at hg';injection hg' with hg'
     subst hg'
     exact .inr ⟨hb',h1.2⟩
theorem wpList_own (E:Elem P t e size bytes z) (w:World) {ops:Array Oper} {rest:List Oper} {o:Oper} {a:Act} {Q:Exit→Act→World→Prop} (hw:Region.wanted o (yielded ops a.tmps)=true) (s x:Operand)
 (ho:o.op=.call { callee := .builtin .append,args:=#[s,x],argTypes:=#[t,t] })
 (v:Value) (n:Nat) (xs:List Value) (hs:a.eval s=v) (hown:Own w V e size v n xs)
 (B:Nat) (A:Option Addr) (m c:Nat) (news:List Value) (hx:a.eval x=.slice A m c) (hr:Reads w B size A m news) (h1:∀ u∈news,u.oneCell'=true)
 (hbytes:(n+m)*bytes≤140737488355328)
 (h:∀ v' w',Own w' (Ext V w w') e size v' (n+m) (xs++news)→Just V w w'→wpList P ops Q rest (a.put o.dst v') w') :
 wpList P ops Q (o :: rest) a w:=by
 obtain⟨v',w',hrun,h2,h3⟩:=run_append_Own E w o.type v n xs hown B A m c news hr h1 hbytes
 unfold wpList
 rw[if_pos hw]
 refine .inl ?_
 unfold Oper.wp execOp
 simp only[ho,resolve,invoke,builtin,Sem.run_bind,Sem.run_pure,Result.andThen_ok,List.map_toArray,List.map_cons,List.map_nil,hs,hx,hrun]
 exact h v' w' h2 h3
end
theorem run_conv_bytes {P:Program} (src dst e:TypeId) (hs:P.underlying src=some (.slice e)) (he:P.underlying e=some (.int .u8)) (hd:P.underlying dst=some .string)
 (w:World) {B:Nat} {A:Option Addr} {n c:Nat} {l:List UInt8} (h:Bytes w B A n l):(convert src dst (.slice A n c)).run P w=.ok (.string ⟨l.toArray⟩) w:=by
 have hl:=h.len
 cases A with
 | none=>
   have hn:n=0:=by
    rcases Nat.eq_zero_or_pos n with h0|h0
    ·exact h0
    ·obtain⟨_,e',_⟩:=h.2 h0;cases e'
   subst hn
   obtain rfl:l=[]:=List.eq_nil_of_length_eq_zero hl
   exact run_convert_bytes_nil w src e hs he 0 c dst hd
 | some ad=>
   subst hl
   refine run_convert_bytes_back w src dst e ad c l hs he hd fun j hj=>?_
   obtain⟨ad',_,e',hc⟩:=h.at_ hj
   injection e' with e'
   rw[e'];exact hc
theorem run_conv_is {P:Program} (src dst e:TypeId) (hs:P.underlying src=some (.slice e)) (he:P.underlying e=some (.int .u8)) (hd:P.underlying dst=some .string)
 (w:World) {u:Value} {l:List UInt8} (h:IsBytes l u w):(convert src dst u).run P w=.ok (.string ⟨l.toArray⟩) w:=by
 obtain⟨A,n,c,rfl,h,_⟩:=h
 exact run_conv_bytes src dst e hs he hd w h
theorem Own.isBytes {w:World} {V:Nat→Prop} {e n:Nat} {v:Value} {l:List UInt8} (h:Own w V e 1 v n (u8s l)):IsBytes l v w:=by
 obtain⟨A,c,rfl,hR,h1,h2⟩:=h.reads
 exact⟨A,n,c,rfl,hR,h1,h2⟩
abbrev Thing:=World→(Nat→Prop)→Prop
def Framed (S:Thing):Prop:=∀ w w' V,S w V→(∀ b,V b→w'.heap[b]?=w.heap[b]?)→S w' V
def Duo (P:Nat→Prop) (S R:Thing) (w:World):Prop:=
 (∀ b,w.heap.size≤b→P b)∧∃ V U:Nat→Prop,S w V∧R w U∧(∀ b,V b→¬ U b)∧(∀ b,V b→P b∧b<w.heap.size)∧(∀ b,U b→P b∧b<w.heap.size)
def Solo (P:Nat→Prop) (S:Thing) (w:World):Prop:=
 (∀ b,w.heap.size≤b→P b)∧∃ V:Nat→Prop,S w V∧(∀ b,V b→P b∧b<w.heap.size)
def Turns (Pr:Program) (f:FuncId) (args:Array Value) (C:Ending→Prop) (S S':Thing) (w:World):Prop:=
 ∀ V:Nat→Prop,S w V→(∀ b,V b→b<w.heap.size)→Calls Pr f args w fun e w'=>C e∧S' w' (Ext V w w')∧Just V w w'
section
variable {P P':Nat→Prop} {S S' R R':Thing} {w w':World}
theorem ext_lt {V:Nat→Prop} (hV:∀ b,V b→P b∧b<w.heap.size) (hP:∀ b,w.heap.size≤b→P b) (hs:w.heap.size≤w'.heap.size):∀ b,Ext V w w' b→P b∧b<w'.heap.size:=fun b hb=>by
 rcases hb with h|⟨h1,h2⟩
 ·have:=hV b h;exact⟨this.1,by omega⟩
 ·exact⟨hP b h1,h2⟩
theorem Duo.left {Pr:Program} {f:FuncId} {args:Array Value} {C:Ending→Prop} (h:Duo P S R w) (hR:Framed R) (hc:Turns Pr f args C S S' w):Calls Pr f args w fun e w'=>C e∧Just P w w'∧Duo P S' R w':=by
 obtain⟨h0,V,U,h1,h2,h3,h4,h5⟩:=h
 refine (hc V h1 (fun b hb=>(h4 b hb).2)).mono fun e w' ⟨he,hs,hj⟩=>⟨he,hj.imp fun k hk=>(h4 k hk).1,fun b hb=>h0 b (Nat.le_trans hj.size hb),Ext V w w',U,hs,hR w w' U h2 (fun b hb=>hj.block b (h5 b hb).2 (fun hv=>h3 b hv hb)),fun b hb hu=>?_,ext_lt h4 h0 hj.size,fun b hb=>⟨(h5 b hb).1,Nat.lt_of_lt_of_le (h5 b hb).2 hj.size⟩⟩
 rcases hb with hb|⟨hb,_⟩
 ·exact h3 b hb hu
 ·have:=(h5 b hu).2;omega
theorem Solo.call {Pr:Program} {f:FuncId} {args:Array Value} {C:Ending→Prop} (h:Solo P S w) (hc:Turns Pr f args C S S' w):Calls Pr f args w fun e w'=>C e∧Just P w w'∧Solo P S' w':=by
 obtain⟨h0,V,h1,h4⟩:=h
 exact (hc V h1 (fun b hb=>(h4 b hb).2)).mono fun e w' ⟨he,hs,hj⟩=>⟨he,hj.imp fun k hk=>(h4 k hk).1,fun b hb=>h0 b (Nat.le_trans hj.size hb),Ext V w w',hs,ext_lt h4 h0 hj.size⟩
theorem Solo.grow (h:Solo P S w) (hS:Framed S) (hg:Grow w w'):Solo P S w':=by
 obtain⟨h0,V,h1,h4⟩:=h
 exact⟨fun b hb=>h0 b (Nat.le_trans hg.size hb),V,hS w w' V h1 (fun b hb=>hg.block b (h4 b hb).2),fun b hb=>⟨(h4 b hb).1,Nat.lt_of_lt_of_le (h4 b hb).2 hg.size⟩⟩
end
def Past (B x b:Nat):Prop:=B≤b∧b≠x
theorem flat_get {α β:Type} (f:α→List β) (m:Nat) (hf:∀ a,(f a).length=m):∀ (l:List α) (k j:Nat) (hk:k<l.length),j<m→(l.flatMap f)[k*m+j]?=(f l[k])[j]?
 | [],k,_,hk,_=>by simp at hk
 | a :: l,0,j,_,hj=>by
   rw[List.flatMap_cons,Nat.zero_mul,Nat.zero_add,List.getElem?_append_left (by rw[hf];exact hj)]
   rfl
 | a :: l,k+1,j,hk,hj=>by
   rw[List.flatMap_cons,List.getElem?_append_right (by rw[hf,Nat.add_mul];omega),hf,show (k+1)*m+j-m=k*m+j by rw[Nat.add_mul];omega]
   rw[flat_get f m hf l k j (by simpa using hk) hj]
   rfl
theorem flat_length {α β:Type} (f:α→List β) (m:Nat) (hf:∀ a,(f a).length=m):∀ (l:List α),(l.flatMap f).length=l.length*m
 | []=>by simp
 | a :: l=>by rw[List.flatMap_cons,List.length_append,hf,flat_length f m hf l,List.length_cons,Nat.add_mul];omega
section
variable {P:Program} {t e:TypeId} {size bytes:Nat} {z:Value} {V:Nat→Prop}
end
section
variable {P:Program} {ops:Array Oper} {A:Nat→List Nat} {K:Nat→Kind} {S:Stages} {w0:World} {T:Act→World→Prop} {o:Oper} {l:List Oper} {j n:Nat} {a0:Act} {L:List (Tmp×Value)} {F:List (Nat×Value×Fact)}
theorem fl_op3 (d:Tmp) (hd:o.dst=some d) (hs:d<n) (hw:Wanted ops o a0 L true) (hk:K j=none) (hm:idxIn j S.muts 0=none) (x y z:Operand) (vx vy vz:Value) (hx:rdL a0 L x=vx) (hy:rdL a0 L y=vy) (hz:rdL a0 L z=vz) (v0:Value)
 (hr:∀ ρ:Operand→Value,ρ x=vx→ρ y=vy→ρ z=vz→∀ k w,S.G w0 w→S.before j k w→FactsAt (A j) k F w→(execOp ρ o).run P w=.ok (.value v0) w)
 (h:FlowL P ops A K S w0 T n l (j+1) a0 ((d,v0) :: L) F):FlowL P ops A K S w0 T n (o :: l) j a0 L F:=
 fl_det d hd hs hw hk hm v0 (hr _ hx hy hz) h
end
theorem Own.grows {w w':World} {V:Nat→Prop} {e size n:Nat} {v:Value} {xs:List Value} (h:Own w V e size v n xs) (hg:Grow w w'):Own w' V e size v n xs:=by
 refine⟨h.1,?_⟩
 rcases h.2 with h2|⟨g,cap,cur,h1,h2,h3,h4⟩
 ·exact .inl h2
 ·exact .inr ⟨g,cap,cur,h1,h2,(hg.block g (Array.getElem?_eq_some_iff.1 h3).1).trans h3,h4⟩
theorem upon_turnAny {P:Program} {w:World} {S:Stages} {j k:Nat} {φ:Fact} {r:Result Next} (t:Nat) (hm:idxIn j S.muts 0=some t) (h:flowUpon P (fun u w'=>S.T k w w'∧S.I (k+1) w'∧φ (k+1) u w') r):flowUpon P (fun u w'=>S.behind j k w w'∧φ (S.next j k) u w') r:=
 upon_imp h fun _ _ ⟨hg,hi,hp⟩=>⟨behind_some t hm hg hi,by rw[next_some t hm];exact hp⟩
def Once (φ:Value→World→Prop):Fact:=fun k u w=>match k with
 | 0=>False
 | _=>φ u w
theorem lit_is (w:World) (cs:Array Value) (e n:Nat) (l:List UInt8) (h:cs.size=n*1) (hc:cs.toList=u8s l) (hn:n≤maxLen):IsBytes l (.slice (some ⟨w.heap.size,0,none⟩) n n) (w.alloc (.cells cs e)):=
 ⟨_,n,n,rfl,by have:=reads_laid w cs e (0,0) h _ rfl;rw[hc] at this;exact Reads.more this (by simp),Nat.le_refl _,hn⟩
def In (w:World) (V:Nat→Prop) (size:Nat) (A:Option Addr) (n:Nat) (xs:List Value):Prop:=
 xs.length=n*size∧(0<n→∃ ad,A=some ad∧V ad.block∧ad.block<w.heap.size∧∀ j u,xs[j]?=some u→w.cell? (ad.add j)=some u)
section
variable {w w':World} {V V' U:Nat→Prop} {size n:Nat} {A:Option Addr} {xs:List Value}
theorem In.nil:In w V size A 0 []:=⟨by simp,fun h=>absurd h (by omega)⟩
theorem In.mono (h:In w V size A n xs) (hV:∀ b,V b→V' b):In w V' size A n xs:=
 ⟨h.1,fun hn=>by obtain⟨ad,e,hv,hb,hc⟩:=h.2 hn;exact⟨ad,e,hV _ hv,hb,hc⟩⟩
theorem In.keep (h:In w V size A n xs) (hk:∀ b,V b→b<w.heap.size→w'.heap[b]?=w.heap[b]?):In w' V size A n xs:=
 ⟨h.1,fun hn=>by
  obtain⟨ad,e,hv,hb,hc⟩:=h.2 hn
  have hs:ad.block<w'.heap.size:=by
   have h1:=hk _ hv hb
   rw[Array.getElem?_eq_getElem hb] at h1
   exact (Array.getElem?_eq_some_iff.1 h1).1
  exact⟨ad,e,hv,hs,fun j u hu=>by rw[World.cell?_of_block (a:=ad.add j) (w:=w) (by rw[block_add];exact hk _ hv hb)];exact hc j u hu⟩⟩
theorem In.grow (h:In w V size A n xs) (hg:Grow w w'):In w' V size A n xs:=h.keep fun b _ hb=>hg.block b hb
theorem In.just (h:In w V size A n xs) (hj:Just U w w') (hd:∀ b,V b→¬ U b):In w' V size A n xs:=h.keep fun b hv hb=>hj.block b hb (hd b hv)
theorem In.reads (h:In w V size A n xs):Reads w w.heap.size size A n xs:=
 ⟨h.1,fun hn=>by obtain⟨ad,e,_,hb,hc⟩:=h.2 hn;exact⟨ad,e,hb,hc⟩⟩
theorem Reads.in_ {B:Nat} (h:Reads w B size A n xs) (hB:B≤w.heap.size) (hV:∀ b,b<B→V b):In w V size A n xs:=
 ⟨h.1,fun hn=>by obtain⟨ad,e,hb,hc⟩:=h.2 hn;exact⟨ad,e,hV _ hb,by omega,hc⟩⟩
theorem Own.in_ {e:TypeId} {v:Value} (h:Own w V e size v n xs):∃ A c,v=.slice A n c∧In w V size A n xs∧n≤c∧c≤maxLen:=by
 rcases h.2 with ⟨rfl,rfl⟩|⟨g,cap,cur,rfl,hV,hg,hn,hm,_,_⟩
 ·exact⟨none,0,rfl,⟨h.1,fun hh=>absurd hh (by omega)⟩,Nat.le_refl _,Nat.zero_le _⟩
 ·obtain⟨A,c,e1,hR,_,_⟩:=h.reads
  injection e1 with e1 e2 e3
  subst e1 e3
  refine⟨_,_,rfl,⟨h.1,fun hh=>?_⟩,hn,hm⟩
  obtain⟨ad,e,hb,hc⟩:=hR.2 hh
  injection e with e
  subst e
  exact⟨_,rfl,hV,hb,hc⟩
theorem In.take (h:In w V size A n xs) {k:Nat} (hk:k≤n):In w V size A k (xs.take (k*size)):=by
 refine⟨by rw[List.length_take,h.1];exact Nat.min_eq_left (Nat.mul_le_mul_right _ hk),fun hn=>?_⟩
 obtain⟨ad,rfl,hv,hb,hcell⟩:=h.2 (by omega)
 refine⟨ad,rfl,hv,hb,fun j u hu=>hcell j u ?_⟩
 rw[List.getElem?_take] at hu
 split at hu
 ·exact hu
 ·cases hu
theorem In.rec_ {α:Type} {cells:α→List Value} {q:List α} (h:In w V size A n (q.flatMap cells)) (hpos:0<size) (hl:∀ a,(cells a).length=size) {k:Nat} (hk:k<n) :
 ∃ (ad:Addr) (hq:k<q.length),A=some ad∧V ad.block∧ad.block<w.heap.size∧
   (∀ u,(cells q[k])[0]?=some u→w.cell? (ad.add (k*size))=some u)∧∀ j u,(cells q[k])[j+1]?=some u→w.cell? ⟨(ad.add (k*size)).block,(ad.add (k*size)).off+(j+1),none⟩=some u:=by
 obtain⟨ad,e,hv,hb,hc⟩:=h.2 (by omega)
 have hql:q.length=n:=by
  have:=h.1
  rw[flat_length cells size hl] at this
  exact Nat.eq_of_mul_eq_mul_right hpos this
 have hkl:k<q.length:=by omega
 have hp:∀ j,(⟨(ad.add (k*size)).block,(ad.add (k*size)).off+(j+1),none⟩:Addr)=ad.add (k*size+(j+1)):=fun j=>by
  rw[←add_add]
  generalize ad.add (k*size)=p
  unfold Addr.add
  rw[if_neg (by omega)]
 have hlt:∀ j u,(cells q[k])[j]?=some u→j<size:=fun j u hu=>by have:=(List.getElem?_eq_some_iff.1 hu).1;rw[hl] at this;exact this
 exact⟨ad,hkl,e,hv,hb,fun u hu=>hc (k*size) u ((flat_get cells size hl q k 0 hkl hpos).trans hu),fun j u hu=>by rw[hp j];exact hc _ u ((flat_get cells size hl q k (j+1) hkl (hlt _ _ hu)).trans hu)⟩
end
theorem alloc_size (w:World) (o:Obj):(w.alloc o).heap.size=w.heap.size+1:=by simp
theorem flat_take {α β:Type} (f:α→List β) (m:Nat) (hf:∀ a,(f a).length=m):∀ (q:List α) (k:Nat),(q.flatMap f).take (k*m)=(q.take k).flatMap f
 | q,0=>by simp
 | [],k+1=>by simp
 | a :: q,k+1=>by
   rw[List.flatMap_cons,List.take_succ_cons,List.flatMap_cons,List.take_append,hf a,Nat.succ_mul,List.take_of_length_le (by rw[hf];omega),show k*m+m-m=k*m by omega,flat_take f m hf q k]
theorem flat_drop {α β:Type} (f:α→List β) (m:Nat) (hf:∀ a,(f a).length=m):∀ (q:List α) (k:Nat),(q.flatMap f).drop (k*m)=(q.drop k).flatMap f
 | q,0=>by simp
 | [],k+1=>by simp
 | a :: q,k+1=>by
   rw[List.flatMap_cons,List.drop_succ_cons,List.drop_append,hf a,Nat.succ_mul,List.drop_of_length_le (by rw[hf];omega),show k*m+m-m=k*m by omega,flat_drop f m hf q k,List.nil_append]
def Row (w:World) (V:Nat→Prop) (e:TypeId) (size:Nat) (v:Value) (n:Nat) (xs:List Value):Prop:=
 xs.length=n*size∧((v=.slice none 0 0∧n=0)∨
  ∃ g cap cur,v=.slice (some ⟨g,0,none⟩) n cap∧V g∧w.heap[g]?=some (.cells cur e (0,0))∧n≤cap∧cap≤maxLen∧cur.size=cap*size∧cur.toList.take (n*size)=xs)
section
variable {w w':World} {V V':Nat→Prop} {e:TypeId} {size n:Nat} {v:Value} {xs:List Value}
theorem Row.own (h:Row w V e size v n xs):Own w V e size v n xs:=by
 refine⟨h.1,?_⟩
 rcases h.2 with h2|⟨g,cap,cur,h1,h2,h3,h4,h5,h6,h7⟩
 ·exact .inl h2
 ·exact .inr ⟨g,cap,cur,h1,h2,h3,h4,h5,.inl h6,h7⟩
theorem Row.owns (h:Row w V e size v n xs):w.ownsRow 0 e size v n xs∧∀ g,v.ownBlock=some g→V g:=by
 rcases h.2 with h2|⟨g,cap,cur,h1,h2,h3,h4,h5,h6,h7⟩
 ·refine⟨⟨h.1,.inl h2⟩,fun g hg=>?_⟩
  rw[h2.1] at hg;cases hg
 ·refine⟨⟨h.1,.inr ⟨g,cap,cur,h1,Nat.zero_le _,h3,h4,h5,h6,h7⟩⟩,fun g' hg=>?_⟩
  rw[h1] at hg;injection hg with hg;rw[←hg];exact h2
theorem Row.of (h:w.ownsRow 0 e size v n xs) (hV:∀ g,v.ownBlock=some g→V g):Row w V e size v n xs:=by
 refine⟨h.1,?_⟩
 rcases h.2 with h2|⟨g,cap,cur,h1,_,h3⟩
 ·exact .inl h2
 ·exact .inr ⟨g,cap,cur,h1,hV g (by rw[h1];rfl),h3⟩
theorem Row.nil:Row w V e size (.slice none 0 0) 0 []:=⟨by simp,.inl ⟨rfl,rfl⟩⟩
theorem Row.mono (h:Row w V e size v n xs) (hV:∀ b,V b→V' b):Row w V' e size v n xs:=by
 refine⟨h.1,?_⟩
 rcases h.2 with h2|⟨g,cap,cur,h1,h2,h3⟩
 ·exact .inl h2
 ·exact .inr ⟨g,cap,cur,h1,hV g h2,h3⟩
theorem Row.keep (h:Row w V e size v n xs) (hk:∀ b,V b→b<w.heap.size→w'.heap[b]?=w.heap[b]?):Row w' V e size v n xs:=by
 refine⟨h.1,?_⟩
 rcases h.2 with h2|⟨g,cap,cur,h1,h2,h3,h4⟩
 ·exact .inl h2
 ·exact .inr ⟨g,cap,cur,h1,h2,(hk g h2 (Array.getElem?_eq_some_iff.1 h3).1).trans h3,h4⟩
theorem Row.grow (h:Row w V e size v n xs) (hg:Grow w w'):Row w' V e size v n xs:=h.keep fun b _ hb=>hg.block b hb
theorem Row.just {U:Nat→Prop} (h:Row w V e size v n xs) (hj:Just U w w') (hd:∀ b,V b→¬ U b):Row w' V e size v n xs:=h.keep fun b hv hb=>hj.block b hb (hd b hv)
theorem Row.in_ (h:Row w V e size v n xs):∃ A c,v=.slice A n c∧In w V size A n xs∧n≤c∧c≤maxLen:=h.own.in_
end
theorem setCells_heap (b:Nat) (e:TypeId) (mk:Nat×Nat):∀ (vs:List Value) (o:Nat) (w:World) (cur:Array Value),w.heap[b]?=some (.cells cur e mk)→o+vs.length≤cur.size→
 ∃ cur',(w.setCells b o vs).heap[b]?=some (.cells cur' e mk)∧cur'.size=cur.size∧cur'.toList=cur.toList.take o++vs++cur.toList.drop (o+vs.length)
 | [],o,w,cur,h,hl=>⟨cur,h,rfl,by simp⟩
 | v :: r,o,w,cur,h,hl=>by
   have h1:(w.setCell ⟨b,o,none⟩ v).heap[b]?=some (.cells (cur.setIfInBounds o v) e mk):=by simp[World.setCell,Array.getElem?_modify,h]
   simp only[List.length_cons] at hl
   obtain⟨cur',h2,h3,h4⟩:=setCells_heap b e mk r (o+1) (w.setCell ⟨b,o,none⟩ v) (cur.setIfInBounds o v) h1 (by simp;omega)
   refine⟨cur',h2,by rw[h3];simp,?_⟩
   rw[h4]
   have e1:(cur.setIfInBounds o v).toList=cur.toList.take o++v :: cur.toList.drop (o+1):=by
    rw[Array.toList_setIfInBounds,List.set_eq_take_append_cons_drop]
    rw[if_pos (by simp;omega)]
   have hto:(cur.toList.take o).length=o:=by rw[List.length_take];simp;omega
   rw[e1,List.take_append,List.drop_append,hto]
   rw[List.take_of_length_le (l:=cur.toList.take o) (by omega),List.drop_of_length_le (l:=cur.toList.take o) (by omega),show o+1-o=1 by omega,show o+1+r.length-o=r.length+1 by omega]
   simp only[List.take_succ_cons,List.take_zero,List.drop_succ_cons,List.drop_drop,List.nil_append,List.append_assoc,List.cons_append,List.length_cons]
   rw[show o+1+r.length=o+(r.length+1) by omega]
theorem setCells_only (b:Nat):∀ (vs:List Value) (o:Nat) (w:World),Only b w (w.setCells b o vs)
 | [],_,w=>Only.refl b w
 | v :: r,o,w=>((Only.refl b w).put o v).trans (setCells_only b r (o+1) _)
theorem setCells_size (b:Nat):∀ (vs:List Value) (o:Nat) (w:World),(w.setCells b o vs).heap.size=w.heap.size
 | [],_,_=>rfl
 | v :: r,o,w=>(setCells_size b r (o+1) _).trans (setCell_size w _ v)
section
variable {P:Program} {t e:TypeId} {size bytes:Nat} {z:Value} {V:Nat→Prop}
theorem run_clear_cells (E:Elem P t e size bytes z) (hv:∀ w,(zeroValue e).run P w=.ok z w) (h1:∀ u∈z.cells.toList,u.oneCell'=true) (w:World) (ty:TypeId) (b o n c:Nat) (hn:0<n)
 (hc:∀ j,j<n*size→(w.cell? ⟨b,o+j,none⟩).isSome=true) (hf:∀ j,j<n*size→w.frozen? ⟨b,o+j,none⟩=false) :
 (Builtin.clear_ #[t] ty #[.slice (some ⟨b,o,none⟩) n c]).run P w=.ok (.tuple #[]) (w.setCells b o (Builtin.zeroCells z.cells n).toList):=by
 have hl:(Builtin.zeroCells z.cells n).toList.length=n*size:=by rw[Array.length_toList,size_zeroCells,E.zs]
 have hst:=run_storeCells_cells (P:=P) b o (Builtin.zeroCells z.cells n).toList 0 w (by rw[hl];simpa using hc) (by rw[hl];simpa using hf) (fun v hv'=>by
  have:v∈Builtin.zeroCells z.cells n:=Array.mem_toList_iff.1 hv'
  unfold Builtin.zeroCells at this
  obtain⟨i,_,rfl⟩:=Array.mem_map.1 this
  have hz:0<z.cells.size:=by rw[E.zs];exact E.pos
  refine h1 _ ?_
  rw[getElem!_pos z.cells (i % z.cells.size) (Nat.mod_lt _ hz)]
  exact Array.mem_toList_iff.2 (Array.getElem_mem _))
 simp only[Nat.add_zero] at hst
 obtain⟨m,rfl⟩:∃ m,n=m+1:=⟨n-1,by omega⟩
 simp[Builtin.clear_,run_underlying E.und,hv,hst]
theorem run_append_Row (E:Elem P t e size bytes z) (w:World) (ty:Nat) (v:Value) (n:Nat) (xs:List Value) (hown:Row w V e size v n xs)
 (B:Nat) (A:Option Addr) (m c:Nat) (news:List Value) (hr:Reads w B size A m news) (h1:∀ u∈news,u.oneCell'=true) (hbytes:(n+m)*bytes≤140737488355328) :
 ∃ v' w',(Builtin.append_ #[t,t] ty #[v,.slice A m c]).run P w=.ok v' w'∧Row w' (Ext V w w') e size v' (n+m) (xs++news)∧Just V w w':=by
 obtain⟨ho,hV⟩:=hown.owns
 obtain⟨v',w',hrun,h2,h3,h4⟩:=run_append_reads E w 0 ty v n xs ho B A m c news hr h1 hbytes (Nat.zero_le _)
 refine⟨v',w',hrun,.of h2 fun g hg=>?_,⟨h3.os,h3.tape,h3.output,h3.size,fun k hk hv=>h3.block k hk (fun e=>hv (hV k e.symm))⟩⟩
 rcases h4 with h4|h4
 ·exact .inl (hV g (by rw[←h4,hg]))
 ·rw[hg] at h4;injection h4 with h4
  have:=h2.lt g hg
  exact .inr ⟨by omega,this.2⟩
theorem wpList_row (E:Elem P t e size bytes z) (w:World) {ops:Array Oper} {rest:List Oper} {o:Oper} {a:Act} {Q:Exit→Act→World→Prop} (hw:Region.wanted o (yielded ops a.tmps)=true) (s x:Operand)
 (ho:o.op=.call { callee := .builtin .append,args:=#[s,x],argTypes:=#[t,t] })
 (v:Value) (n:Nat) (xs:List Value) (hs:a.eval s=v) (hown:Row w V e size v n xs)
 (B:Nat) (A:Option Addr) (m c:Nat) (news:List Value) (hx:a.eval x=.slice A m c) (hr:Reads w B size A m news) (h1:∀ u∈news,u.oneCell'=true)
 (hbytes:(n+m)*bytes≤140737488355328)
 (h:∀ v' w',Row w' (Ext V w w') e size v' (n+m) (xs++news)→Just V w w'→wpList P ops Q rest (a.put o.dst v') w') :
 wpList P ops Q (o :: rest) a w:=by
 obtain⟨v',w',hrun,h2,h3⟩:=run_append_Row E w o.type v n xs hown B A m c news hr h1 hbytes
 unfold wpList
 rw[if_pos hw]
 refine .inl ?_
 unfold Oper.wp execOp
 simp only[ho,resolve,invoke,builtin,Sem.run_bind,Sem.run_pure,Result.andThen_ok,List.map_toArray,List.map_cons,List.map_nil,hs,hx,hrun]
 exact h v' w' h2 h3
theorem flow_append_row (E:Elem P t e size bytes z) {w:World} {o:Oper} {ρ:Operand→Value} {R:Value→World→Prop} {s x:Operand} (ho:o.op=.call { callee := .builtin .append,args:=#[s,x],argTypes:=#[t,t] })
 {v:Value} {n:Nat} {xs:List Value} (hs:ρ s=v) (hown:Row w V e size v n xs) {B:Nat} {A:Option Addr} {m c:Nat} {news:List Value} (hx:ρ x=.slice A m c) (hr:Reads w B size A m news) (h1:∀ u∈news,u.oneCell'=true)
 (hbytes:(n+m)*bytes≤140737488355328) (h:∀ v' w',Row w' (Ext V w w') e size v' (n+m) (xs++news)→Just V w w'→R v' w'):flowUpon P R ((execOp ρ o).run P w):=by
 obtain⟨v',w',hrun,h2,h3⟩:=run_append_Row E w o.type v n xs hown B A m c news hr h1 hbytes
 refine flowUpon_value (u:=v') (w:=w') ?_ (h v' w' h2 h3)
 unfold execOp
 simp only[ho,resolve,invoke,builtin,Sem.run_bind,Sem.run_pure,Result.andThen_ok,List.map_toArray,List.map_cons,List.map_nil,hs,hx,hrun]
end
section
variable {P:Program} {t e:TypeId} {size bytes:Nat} {z:Value}
theorem Reads.srcAll {w:World} {B m c:Nat} {A:Option Addr} {news:List Value} (E:Elem P t e size bytes z) (hr:Reads w B size A m news) (h1:∀ u∈news,u.oneCell'=true):Src P size t (.slice A m c) m news w:=by
 by_cases hm:m=0
 ·have:=hr.src (c:=c) E hm
  subst hm
  obtain rfl:news=[]:=List.eq_nil_of_length_eq_zero (by simpa using hr.1)
  exact this
 ·obtain⟨ad,rfl,_,hc⟩:=hr.2 (by omega)
  exact Src.ofSlice w E.und ad m c news hr.1 hc h1
theorem run_append_over (E:Elem P t e size bytes z) (w:World) (ty:Nat) {g k c m c2 B:Nat} {cur:Array Value} {A:Option Addr} {news:List Value} (hg:w.heap[g]?=some (.cells cur e (0,0))) (hr:Reads w B size A m news) (h1:∀ u∈news,u.oneCell'=true)
 (hroom:k+m≤c) (hs:(k+m)*size≤cur.size) :
 (Builtin.append_ #[t,t] ty #[.slice (some ⟨g,0,none⟩) k c,.slice A m c2]).run P w=.ok (.slice (some ⟨g,0,none⟩) (k+m) c) (w.setCells g (k*size) news):=by
 obtain⟨i,hi,_,hsz,_⟩:=E.info
 have hsrc:Src P i.size t (.slice A m c2) m news w:=by rw[hsz];exact hr.srcAll E h1
 have hl:=hr.1
 have hle:k*size+m*size≤cur.size:=by rw[←Nat.add_mul];exact hs
 have:=run_append_room_src (P:=P) w t t ty e i E.und hi g 0 k c (.slice A m c2) m news hsrc hroom (fun j hj=>by
  rw[cell_of_row w g _ cur e (0,0) hg,hsz,Array.getElem?_eq_getElem (by omega)];rfl) (fun j hj=>Blk.frozen (show Blk w g e cur from hg) _)
 rw[hsz,Nat.zero_add] at this
 exact this
theorem zero_run (E:Elem P t e size bytes z) (w:World):(zeroValue e).run P w=.ok z w:=by
 obtain⟨i,hi,hz,_,_⟩:=E.info
 simp[zeroValue,typeInfo,hi,hz]
theorem wpList_app_run {w:World} {ops:Array Oper} {rest:List Oper} {o:Oper} {a:Act} {Q:Exit→Act→World→Prop} (hw:Region.wanted o (yielded ops a.tmps)=true) (s x:Operand) {tx:TypeId}
 (ho:o.op=.call { callee := .builtin .append,args:=#[s,x],argTypes:=#[t,tx] }) {vs vx v':Value} {w':World} (hs:a.eval s=vs) (hx:a.eval x=vx)
 (hrun:(Builtin.append_ #[t,tx] o.type #[vs,vx]).run P w=.ok v' w') (h:wpList P ops Q rest (a.put o.dst v') w'):wpList P ops Q (o :: rest) a w:=by
 unfold wpList
 rw[if_pos hw]
 refine .inl ?_
 unfold Oper.wp execOp
 simp only[ho,resolve,invoke,builtin,Sem.run_bind,Sem.run_pure,Result.andThen_ok,List.map_toArray,List.map_cons,List.map_nil,hs,hx,hrun]
 exact h
end
theorem flowUpon_skip {P:Program} {R:Value→World→Prop} {r:Result Next} {w':World} (hr:r=.ok .skip w') (h:R undef w'):flowUpon P R r:=by rw[hr];exact h
theorem just_at (w:World) (x i:Nat) (u:Value):Just (fun b=>b=x) w (w.setCell ⟨x,i,none⟩ u):=(Just.of_grow (Grow.refl w)).put (V:=fun b=>b=x) rfl i u
section
variable {P:Program} {t e:TypeId} {size bytes:Nat} {z:Value}
end
end Go.Hop
end
section
namespace Go.Proofs.YtmijcbfgfkeodaaGreatDoor
open Go.RowKit Go.Hop
abbrev Dl:=ByteArray×Nat
def dcell (d:Dl):List Value:=[.string d.1,.int .u64 (d.2:Int)]
def dcells (l:List Dl):List Value:=l.flatMap dcell
theorem dcell_len (d:Dl):(dcell d).length=2:=rfl
theorem dcells_one (l:List Dl):∀ u∈dcells l,u.oneCell'=true:=by
 intro u hu
 unfold dcells at hu
 obtain⟨d,_,hd⟩:=List.mem_flatMap.1 hu
 simp only[dcell,List.mem_cons,List.not_mem_nil,or_false] at hd
 rcases hd with rfl|rfl<;>rfl
theorem dcells_len (l:List Dl):(dcells l).length=l.length*2:=flat_length dcell 2 dcell_len l
def New (w w':World) (b:Nat):Prop:=w.heap.size≤b∧b<w'.heap.size
theorem info_parts {e size bytes:Nat} {z:Value} (h:(Tryz.prog.info? e).map (fun i=>(i.zero,i.size,i.bytes))=some (some z,size,bytes)):∃ i,Tryz.prog.info? e=some i∧i.zero=some z∧i.size=size∧i.bytes=bytes:=by
 cases hi:Tryz.prog.info? e with
 | none=>rw[hi] at h;cases h
 | some i=>rw[hi] at h;injection h with h;injection h with h1 h2;injection h2 with h2 h3;exact⟨i,rfl,h1,h2,h3⟩
theorem delta_info:(Tryz.prog.info? 29).map (fun i=>(i.zero,i.size,i.bytes))=some (some (.agg #[.string .empty,.int .u64 0]),2,24):=by kernel_rfl
theorem deltaE:Elem Tryz.prog 30 29 2 24 (.agg #[.string .empty,.int .u64 0]):=⟨Tryz.underlying30,info_parts delta_info,rfl,by decide,by decide⟩
def DIn (w:World) (V:Nat→Prop) (A:Option Addr) (n:Nat) (l:List Dl):Prop:=In w V 2 A n (dcells l)
theorem DIn.len {w:World} {V:Nat→Prop} {A:Option Addr} {n:Nat} {l:List Dl} (h:DIn w V A n l):l.length=n:=by
 have:=h.1;rw[dcells_len] at this;omega
theorem own_new {w w1:World} {t e:TypeId} {size:Nat} {v:Value} {n:Nat} {xs:List Value} (hO:Own w1 (Ext (fun b=>b=w.heap.size) (w.alloc (.cells #[] t)) w1) e size v n xs) (hj:Just (fun b=>b=w.heap.size) (w.alloc (.cells #[] t)) w1):Own w1 (New w w1) e size v n xs∧Grow w w1:=by
 have hs:w.heap.size<w1.heap.size:=by have:=hj.size;simp at this;omega
 refine⟨hO.mono (fun b hb=>?_),((Below.refl w.heap.size w).alloc (Nat.le_refl _) (.cells #[] t)).trans (hj.below (B:=w.heap.size) (fun b hb=>by rw[hb];exact Nat.le_refl _) (by simp))⟩
 rcases hb with rfl|⟨h1,h2⟩
 ·exact⟨Nat.le_refl _,hs⟩
 ·simp at h1;exact⟨by omega,h2⟩
theorem made_own (w:World) (e:TypeId) (size:Nat):Own (w.alloc (.cells #[] e)) (fun b=>b=w.heap.size) e size (.slice (some ⟨w.heap.size,0,none⟩) 0 0) 0 []:=
 ⟨by simp,.inr ⟨w.heap.size,0,#[],rfl,rfl,heap_alloc_new w _,Nat.le_refl _,Nat.zero_le _,.inl (by simp),by simp⟩⟩
end Go.Proofs.YtmijcbfgfkeodaaGreatDoor
end
section
namespace Go.Proofs.YtmijcbfgfkeodaaGreatDoor.L
open Go.RowKit Go.Hop
abbrev Lb:=ByteArray×ByteArray
def lcell (d:Lb):List Value:=[.string d.1,.string d.2]
def lcells (l:List Lb):List Value:=l.flatMap lcell
theorem lcell_len (d:Lb):(lcell d).length=2:=rfl
theorem lcells_one (l:List Lb):∀ u∈lcells l,u.oneCell'=true:=by
 intro u hu
 unfold lcells at hu
 obtain⟨d,_,hd⟩:=List.mem_flatMap.1 hu
 simp only[lcell,List.mem_cons,List.not_mem_nil,or_false] at hd
 rcases hd with rfl|rfl<;>rfl
theorem lcells_len (l:List Lb):(lcells l).length=l.length*2:=flat_length lcell 2 lcell_len l
theorem label_info:(Tryz.prog.info? 90).map (fun i=>(i.zero,i.size,i.bytes))=some (some (.agg #[.string .empty,.string .empty]),2,32):=by kernel_rfl
theorem labelE:Elem Tryz.prog 91 90 2 32 (.agg #[.string .empty,.string .empty]):=⟨Tryz.underlying91,info_parts label_info,rfl,by decide,by decide⟩
theorem str_info:(Tryz.prog.info? 9).map (fun i=>(i.zero,i.size,i.bytes))=some (some (.string .empty),1,16):=by kernel_rfl
theorem strE:Elem Tryz.prog 83 9 1 16 (.string .empty):=⟨Tryz.underlying83,info_parts str_info,rfl,by decide,by decide⟩
theorem scells_one (l:List ByteArray):∀ u∈l.map Value.string,u.oneCell'=true:=by
 intro u hu
 obtain⟨x,_,rfl⟩:=List.mem_map.1 hu
 rfl
theorem lab_at {w:World} {V:Nat→Prop} {A:Option Addr} {n:Nat} {q:List Lb} (h:In w V 2 A n (lcells q)) {k:Nat} (hk:k<n) :
 ∃ (ad:Addr) (hq:k<q.length),A=some ad∧(∀ w1,Grow w w1→w1.cell? (ad.add (k*2))=some (.string q[k].1))∧∀ w1,Grow w w1→w1.cell? ⟨(ad.add (k*2)).block,(ad.add (k*2)).off+1,none⟩=some (.string q[k].2):=by
 obtain⟨ad,hq,e,_,hb,e0,e12⟩:=In.rec_ (cells:=lcell) h (by omega) lcell_len hk
 exact⟨ad,hq,e,fun w1 hg=>(hg.cell (by rw[block_add];exact hb)).trans (e0 _ rfl),fun w1 hg=>(hg.cell (p:=⟨(ad.add (k*2)).block,(ad.add (k*2)).off+1,none⟩) (show (ad.add (k*2)).block<_ by rw[block_add];exact hb)).trans (e12 0 _ rfl)⟩
theorem str_at {w:World} {V:Nat→Prop} {A:Option Addr} {n:Nat} {q:List ByteArray} (h:In w V 1 A n (q.map Value.string)) {k:Nat} (hk:k<n) :
 ∃ (ad:Addr) (hq:k<q.length),A=some ad∧∀ w1,Grow w w1→w1.cell? (ad.add k)=some (.string q[k]):=by
 obtain⟨ad,e,_,hb,hc⟩:=h.2 (by omega)
 have hl:=h.1
 simp only[List.length_map,Nat.mul_one] at hl
 have hq:k<q.length:=by omega
 exact⟨ad,hq,e,fun w1 hg=>(hg.cell (by rw[block_add];exact hb)).trans (hc k _ (by rw[List.getElem?_map,List.getElem?_eq_getElem hq];rfl))⟩
theorem LIn.len {w:World} {V:Nat→Prop} {A:Option Addr} {n:Nat} {l:List Lb} (h:In w V 2 A n (lcells l)):l.length=n:=by
 have:=h.1;rw[lcells_len] at this;omega
def slt (a b:ByteArray):Bool:=Op.bytesLess a.toList b.toList
theorem slt_is (a b:ByteArray):slt a b=decide (a.data.toList<b.data.toList):=by
 unfold slt
 rw[bytesLess_eq,Lib.toList_data,Lib.toList_data]
theorem slt_irr (a:ByteArray):slt a a=false:=by
 rw[slt_is];exact decide_eq_false (List.lt_irrefl _)
theorem slt_tr {a b c:ByteArray} (h:slt a b=true) (k:slt b c=true):slt a c=true:=by
 rw[slt_is] at *
 exact decide_eq_true (List.lt_trans (of_decide_eq_true h) (of_decide_eq_true k))
theorem slt_tri {a b:ByteArray} (h:slt a b=false) (k:slt b a=false):a=b:=by
 rw[slt_is] at *
 have h1:=of_decide_eq_false h
 have h2:=of_decide_eq_false k
 have e:a.data.toList=b.data.toList:=List.le_antisymm (List.not_lt.1 h2) (List.not_lt.1 h1)
 exact ByteArray.ext (Array.toList_inj.1 e)
theorem slt_no {a b:ByteArray} (h:slt a b=true):slt b a=false:=by
 cases hb:slt b a with
 | false=>rfl
 | true=>have:=slt_tr h hb;rw[slt_irr] at this;cases this
theorem slt_ntr {x y z:ByteArray} (h:slt x y=false) (k:slt y z=false):slt x z=false:=by
 cases hz:slt x z with
 | false=>rfl
 | true=>
   cases hzy:slt z y with
   | true=>rw[slt_tr hz hzy] at h;cases h
   | false=>have e:=slt_tri k hzy;rw[e,hz] at h;cases h
theorem txt_eq {a b:ByteArray}:a.toList=b.toList↔a=b:=by
 rw[Lib.toList_data,Lib.toList_data]
 exact⟨fun e=>ByteArray.ext (Array.toList_inj.1 e),fun e=>by rw[e]⟩
def cmpT (a b:ByteArray):Int:=if slt a b then -1 else if slt b a then 1 else 0
theorem gtr_is (a b:ByteArray):(!(Op.bytesLess a.toList b.toList || a.toList == b.toList))=slt b a:=by
 cases h1:slt a b with
 | true=>
   have h2:=slt_no h1
   unfold slt at h1
   rw[h1,h2];rfl
 | false=>
   have h1':=h1
   unfold slt at h1'
   rw[h1',Bool.false_or]
   cases h2:slt b a with
   | false=>
     have:=slt_tri h1 h2
     subst this
     simp
   | true=>
     have hne:a.toList≠b.toList:=fun e=>by
      have:=txt_eq.1 e
      rw[this,slt_irr] at h2;cases h2
     simp[hne]
theorem isNaN_any (w:World) (a:ByteArray):Calls Tryz.prog 210 #[.string a] w fun e w'=>e=.returned (.bool false)∧w=w':=by
 go_enter Tryz.func210,Tryz.ntmps210
 go_wp2_with fail
 go_ret
 exact⟨by simp,rfl⟩
theorem Compare_any (w:World) (a b:ByteArray):Calls Tryz.prog 136 #[.string a,.string b] w fun e w'=>e=.returned (.int .i64 (cmpT a b))∧w=w':=by
 have hg:=gtr_is a b
 unfold cmpT
 cases h1:slt a b with
 | true=>
   rw[if_pos rfl]
   unfold slt at h1
   go_enter Tryz.func136,Tryz.ntmps136
   go_wp2_with (go_at_call 210;refine (isNaN_any _ _).mono ?_;rintro e w' ⟨rfl,rfl⟩)
   go_ret
   exact⟨rfl,rfl⟩
 | false=>
   rw[if_neg (by simp)]
   unfold slt at h1
   cases h2:slt b a with
   | true=>
     rw[if_pos rfl]
     rw[h2] at hg
     go_enter Tryz.func136,Tryz.ntmps136
     go_wp2_with (go_at_call 210;refine (isNaN_any _ _).mono ?_;rintro e w' ⟨rfl,rfl⟩)
     all_goals first|(go_ret;exact⟨rfl,rfl⟩)|simp_all
   | false=>
     rw[if_neg (by simp)]
     rw[h2] at hg
     go_enter Tryz.func136,Tryz.ntmps136
     go_wp2_with (go_at_call 210;refine (isNaN_any _ _).mono ?_;rintro e w' ⟨rfl,rfl⟩)
     all_goals first|(go_ret;exact⟨rfl,rfl⟩)|simp_all
end Go.Proofs.YtmijcbfgfkeodaaGreatDoor.L
end
