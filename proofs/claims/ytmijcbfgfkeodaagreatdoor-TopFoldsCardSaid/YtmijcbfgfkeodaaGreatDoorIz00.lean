/- Base. -/
import Derived.WalkKit
import Derived.WalkSpells
import Derived.WalkLawsBesides
import Derived.Lib.Hide
import Derived.Deep.AppendLies
import Derived.Deep.Draws
import Derived.Maps.AppendAt
import Derived.RegionTactic
set_option linter.all false
set_option maxRecDepth 100000
open Go.Value renaming int → ae,slice → ai
open Go.IntKind renaming i64 → af,u64 → ah
open Nat renaming lt_of_lt_of_le → aA,le_trans → aH,mul_le_mul_right → bm,lt_or_ge → bn,min_eq_left → bF
open List renaming eq_nil_of_length_eq_zero → aJ,length_take → aK,length_drop → bh
namespace Go
instance:Coe Nat Value:=⟨fun b=>.pointer (some ⟨b,0,none⟩)⟩
theorem aj {p:Prop} (h:p:=by rfl):p:=h
theorem ak {p:Prop} (h:p:=by decide):p:=h
theorem al {p:Prop} (h:p:=by omega):p:=h
theorem am {p:Prop} (h:p:=by kernel_rfl):p:=h
end Go
section
namespace Go.Hop
open Go.RowKit
theorem block_add (a:Addr) (n:Nat):(a.add n).block=a.block:=by unfold Addr.add;split<;>rfl
theorem add_add (a:Addr) (i j:Nat):(a.add i).add j=a.add (i+j):=by
 unfold Addr.add
 by_cases hi:i=0<;>by_cases hj:j=0<;>simp[hi,hj,Nat.add_assoc]
def Reads (w:World) (B size:Nat) (A:Option Addr) (n:Nat) (xs:List Value):Prop:=
 xs.length=n*size∧(0<n→∃ ad,A=some ad∧ad.block<B∧∀ j u,xs[j]?=some u→w.cell? (ad.add j)=some u)
section
variable {w w':World} {B B' size n:Nat} {A:Option Addr} {xs:List Value}
theorem Reads.nil:Reads w B size A 0 []:=⟨by simp,fun h=>absurd h al⟩
theorem Reads.at_ {k:Nat} (h:Reads w B 1 A n xs) (hk:k<n):∃ ad u,A=some ad∧ad.block<B∧xs[k]?=some u∧w.cell? (ad.add k)=some u:=by
 obtain⟨ad,e,hb,hc⟩:=h.2 al
 have hl:k<xs.length:=by have:=h.1;omega
 exact⟨ad,xs[k],e,hb,List.getElem?_eq_getElem hl,hc k _ (List.getElem?_eq_getElem hl)⟩
theorem Reads.keep (h:Reads w B size A n xs) (hk:∀ p:Addr,p.block<B→w'.cell? p=w.cell? p):Reads w' B size A n xs:=
 ⟨h.1,fun hn=>by
  obtain⟨ad,e,hb,hc⟩:=h.2 hn
  exact⟨ad,e,hb,fun j u hu=>(hk _ (by rw[block_add];exact hb)).trans (hc j u hu)⟩⟩
theorem Reads.more (h:Reads w B size A n xs) (hB:B≤B'):Reads w B' size A n xs:=
 ⟨h.1,fun hn=>by
  obtain⟨ad,e,hb,hc⟩:=h.2 hn
  exact⟨ad,e,by omega,hc⟩⟩
theorem Reads.below (h:Reads w B size A n xs) (hb:Below B w w'):Reads w' B size A n xs:=h.keep fun _ hp=>hb.cell hp
theorem Reads.alloc (h:Reads w B size A n xs) (hB:B≤w.heap.size) (o:Obj):Reads (w.alloc o) B size A n xs:=h.keep fun p hp=>World.cell?_alloc_lt w o p al
theorem Reads.setCell (h:Reads w B size A n xs) {p:Addr} (hB:B≤p.block) (u:Value):Reads (w.setCell p u) B size A n xs:=
 h.keep fun q hq=>World.cell?_setCell_other w p q u (fun e=>by subst e;omega)
theorem Reads.cut (h:Reads w B size A n xs) {k cap:Nat} (hk:k≤n) (hc:n≤cap) :
 Reads w B size (if cap=k then A else A.map (·.add (k*size))) (n-k) (xs.drop (k*size)):=by
 refine⟨by rw[bh,h.1,Nat.sub_mul],fun hn=>?_⟩
 obtain⟨ad,rfl,hb,hcell⟩:=h.2 al
 rw[if_neg al]
 refine⟨ad.add (k*size),rfl,by rw[block_add];exact hb,fun j u hu=>?_⟩
 rw[add_add]
 exact hcell _ u (by rw[←hu,List.getElem?_drop])
theorem Reads.take (h:Reads w B size A n xs) {k:Nat} (hk:k≤n):Reads w B size A k (xs.take (k*size)):=by
 refine⟨by rw[aK,h.1];exact bF (bm _ hk),fun hn=>?_⟩
 obtain⟨ad,rfl,hb,hcell⟩:=h.2 al
 refine⟨ad,rfl,hb,fun j u hu=>hcell j u ?_⟩
 rw[List.getElem?_take] at hu
 split at hu
 ·exact hu
 ·cases hu
end
theorem yC:IntKind.u8.signed=false:=rfl
theorem vb:IntKind.u16.signed=false:=rfl
theorem vd:IntKind.u32.signed=false:=rfl
theorem ve:IntKind.u64.signed=false:=rfl
theorem vf:IntKind.i64.signed=true:=rfl
theorem GJ:IntKind.u8.max=255:=rfl
theorem EC:IntKind.u32.max=4294967295:=rfl
theorem ED:IntKind.u64.max=18446744073709551615:=rfl
attribute [go_sem] yC vb vd ve vf GJ EC ED
theorem wrap_u64 (n:Int):IntKind.u64.wrap n=n % 18446744073709551616:=by simp[IntKind.wrap,IntKind.bits,IntKind.signed]
theorem gu {k:IntKind} {a b:Int} (h:a=b):Ending.returned (.int k a)=.returned (.int k b):=by rw[h]
theorem fL {a b:Bool} (h:a=b):Ending.returned (.bool a)=.returned (.bool b):=by rw[h]
def J_ (p:Prop):Prop:=p
theorem stay {p:Prop} (h:J_ p):p:=h
theorem bV {p:Prop} (h:p):J_ p:=h
def gn (l:List UInt8):List Value:=l.map fun x => .int .u8 (x.toNat:Int)
@[simp] theorem u8s_length (l:List UInt8):(gn l).length=l.length:=by simp[gn]
theorem xL {l:List UInt8} {k:Nat} {u:Value} (h:(gn l)[k]?=some u):∃ hk:k<l.length,u=.int .u8 (l[k].toNat:Int):=by
 unfold gn at h
 rw[List.getElem?_map] at h
 have hk:k<l.length:=by
  rcases bn k l.length with h1|h1
  ·exact h1
  ·rw[List.getElem?_eq_none h1] at h;cases h
 refine⟨hk,?_⟩
 rw[List.getElem?_eq_getElem hk] at h
 simpa using h.symm
theorem ff (a b:List UInt8):gn (a++b)=gn a++gn b:=by simp[gn]
theorem gR {l:List UInt8}:∀ u∈gn l,u.oneCell'=true:=by
 intro u hu
 unfold gn at hu
 obtain⟨x,_,rfl⟩:=List.mem_map.1 hu
 rfl
def Bytes (w:World) (B:Nat) (A:Option Addr) (n:Nat) (l:List UInt8):Prop:=Reads w B 1 A n (gn l)
theorem Bytes.len {w:World} {B n:Nat} {A:Option Addr} {l:List UInt8} (h:Bytes w B A n l):l.length=n:=by
 have:=h.1;simpa using this
theorem Bytes.at_ {w:World} {B n k:Nat} {A:Option Addr} {l:List UInt8} (h:Bytes w B A n l) (hk:k<n) :
 ∃ (ad:Addr) (hl:k<l.length),A=some ad∧w.cell? (ad.add k)=some (.int .u8 (l[k].toNat:Int)):=by
 obtain⟨ad,u,e,_,hx,hc⟩:=Reads.at_ h hk
 obtain⟨hl,rfl⟩:=xL hx
 exact⟨ad,hl,e,hc⟩
end Go.Hop
namespace Go.Hop
open Go.RowKit
structure Elem (P:Program) (t e:TypeId) (size bytes:Nat) (z:Value):Prop where
 und:P.underlying t=some (.slice e)
 info:∃ i,P.info? e=some i∧i.zero=some z∧i.size=size∧i.bytes=bytes
 zs:z.cells.size=size
 pos:0<size
 bpos:0<bytes
section
variable {P:Program} {t e:TypeId} {size bytes:Nat} {z:Value}
theorem lx (E:Elem P t e size bytes z) (w:World) (base ty:Nat) (v:Value) (n:Nat) (xs:List Value) (hown:w.ownsRow base e size v n xs) (c:Nat) :
 (Builtin.append_ #[t,t] ty #[v,.slice none 0 c]).run P w=.ok v w:=by
 obtain⟨i,hi,_,hs,_⟩:=E.info
 rcases hown.2 with ⟨rfl,rfl⟩|⟨g,cap,cur,rfl,_,_,hnc,_⟩
 ·simp[Builtin.append_,run_underlying E.und,sizeOf,typeInfo,hi,Builtin.lenOf,Builtin.firstCells]
 ·simp[Builtin.append_,run_underlying E.und,sizeOf,typeInfo,hi,Builtin.lenOf,Builtin.firstCells,hnc,storeCells]
theorem jj (E:Elem P t e size bytes z) (w:World) (base ty:Nat) (v:Value) (n:Nat) (xs:List Value) (hown:w.ownsRow base e size v n xs)
 (B:Nat) (A:Option Addr) (m c:Nat) (news:List Value) (hr:Reads w B size A m news) (h1:∀ u∈news,u.oneCell'=true)
 (hbytes:(n+m)*bytes≤140737488355328) (hbase:base≤w.heap.size) :
 ∃ v' w',(Builtin.append_ #[t,t] ty #[v,.slice A m c]).run P w=.ok v' w'∧w'.ownsRow base e size v' (n+m) (xs++news)∧w.grownBy w' v.ownBlock∧
   (v'.ownBlock=v.ownBlock∨v'.ownBlock=some w.heap.size):=by
 have h63:n+m≤maxLen:=by
  have:=Nat.le_mul_of_pos_right (n+m) E.bpos
  simp only[maxLen];omega
 obtain⟨i,hi,hz,hs,hb⟩:=E.info
 by_cases hm:m=0
 ·subst hm
  obtain rfl:news=[]:=aJ (by simpa using hr.1)
  cases A with
  | none=>exact⟨v,w,lx E w base ty v n xs hown c,by simpa using hown,World.grownBy.refl w _,.inl rfl⟩
  | some ad=>
    obtain⟨v',w',hrun,h2,h3,_,h5⟩:=run_append_own_at (P:=P) w base t ty e i z size bytes E.und hi hz hs hb E.zs E.pos v n xs hown ad 0 c [] (by simp) (by simp) h1 h63 hbytes hbase
    exact⟨v',w',hrun,h2,h3,h5⟩
 ·obtain⟨ad,rfl,_,hc⟩:=hr.2 al
  obtain⟨v',w',hrun,h2,h3,_,h5⟩:=run_append_own_at (P:=P) w base t ty e i z size bytes E.und hi hz hs hb E.zs E.pos v n xs hown ad m c news hr.1 hc h1 h63 hbytes hbase
  exact⟨v',w',hrun,h2,h3,h5⟩
end
theorem df (w:World) (cs:Array Value) (e:TypeId) (mk:Nat×Nat) {n size:Nat} (h:cs.size=n*size) (g:Nat) (hg:w.heap.size=g) :
 Reads (w.alloc (.cells cs e mk)) (g+1) size (some ⟨g,0,none⟩) n cs.toList:=by
 subst hg
 refine⟨by simpa using h,fun _=>⟨_,rfl,by simp,fun j u hu=>?_⟩⟩
 have hh:(w.alloc (.cells cs e mk)).heap[w.heap.size]?=some (.cells cs e mk):=heap_alloc_new w _
 have hadd:(⟨w.heap.size,0,none⟩:Addr).add j=⟨w.heap.size,j,none⟩:=by unfold Addr.add;split<;>simp_all
 rw[hadd,cell_of_row _ _ _ _ _ _ hh]
 simpa using hu
theorem cL {a b c:World} {B:Nat} (h:Below B a b) (k:Below b.heap.size b c) (hB:B≤b.heap.size):Below B a c:=h.trans (k.mono hB)
def bZ (l:List UInt8) (u:Value) (w:World):Prop:=∃ A n c,u=.slice A n c∧Bytes w w.heap.size A n l∧n≤c∧c≤maxLen
theorem bZ.below {l:List UInt8} {u:Value} {w w':World} (h:bZ l u w) (hb:Below w.heap.size w w'):bZ l u w':=by
 obtain⟨A,n,c,e,h1,h2,h3⟩:=h
 exact⟨A,n,c,e,(Reads.below h1 hb).more hb.size,h2,h3⟩
def ct (w:World) (g:Nat) (t:TypeId) (cs:Array Value):Prop:=w.heap[g]?=some (.cells cs t (0,0))
section
variable {w w':World} {g:Nat} {t:TypeId} {cs:Array Value}
theorem ct.lt (h:ct w g t cs):g<w.heap.size:=(Array.getElem?_eq_some_iff.1 h).1
theorem ct.cell (h:ct w g t cs) (i:Nat):w.cell? ⟨g,i,none⟩=cs[i]?:=cell_of_row w g i cs t (0,0) h
theorem ct.frozen (h:ct w g t cs) (i:Nat):w.frozen? ⟨g,i,none⟩=false:=by
 unfold ct at h
 simp[World.frozen?,h]
theorem ct.made (w:World) (t:TypeId) (cs:Array Value):ct (w.alloc (.cells cs t)) w.heap.size t cs:=heap_alloc_new w _
theorem ct.alloc (h:ct w g t cs) (o:Obj):ct (w.alloc o) g t cs:=(Below.heap_alloc w o g h.lt).trans h
theorem ct.put (h:ct w g t cs) (i:Nat) (u:Value):ct (w.setCell ⟨g,i,none⟩ u) g t (cs.setIfInBounds i u):=by
 unfold ct at h ⊢
 simp[World.setCell,Array.getElem?_modify,h]
theorem ct.far (h:ct w g t cs) {p:Addr} (hp:g≠p.block) (u:Value):ct (w.setCell p u) g t cs:=(Below.heap_setCell w p u g hp).trans h
theorem ct.below {B:Nat} (h:ct w g t cs) (hb:Below B w w') (hg:g<B):ct w' g t cs:=(hb.block g hg).trans h
theorem ct.grow (h:ct w g t cs) (hb:Below w.heap.size w w'):ct w' g t cs:=h.below hb h.lt
end
def Only (g:Nat) (w w':World):Prop:=w.grownBy w' (some g)
section
variable {g:Nat} {a b c:World}
theorem Only.refl (g:Nat) (w:World):Only g w w:=World.grownBy.refl w _
theorem Only.trans (h:Only g a b) (k:Only g b c):Only g a c:=
 ⟨k.os.trans h.os,k.tape.trans h.tape,k.output.trans h.output,aH h.size k.size,fun i hi hne=>(k.block i (aA hi h.size) hne).trans (h.block i hi hne)⟩
theorem Only.bJ (h:Below a.heap.size a b):Only g a b:=⟨h.os,h.tape,h.output,h.size,fun i hi _=>h.block i hi⟩
theorem Only.put (h:Only g a b) (i:Nat) (u:Value):Only g a (b.setCell ⟨g,i,none⟩ u):=
 h.trans ⟨rfl,rfl,rfl,by simp[World.setCell],fun k _ hne=>Below.heap_setCell b ⟨g,i,none⟩ u k (fun e=>hne (by rw[e]))⟩
theorem Only.blk {k:Nat} {t:TypeId} {cs:Array Value} (h:Only g a b) (hk:ct a k t cs) (hne:k≠g):ct b k t cs:=(h.block k hk.lt (fun e=>hne (by injection e))).trans hk
end
end Go.Hop
end
