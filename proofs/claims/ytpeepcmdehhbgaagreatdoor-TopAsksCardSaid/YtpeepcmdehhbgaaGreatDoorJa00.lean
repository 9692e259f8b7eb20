import Derived.WalkKit
import Derived.WalkSpells
import Derived.WalkLawsBesides
import Derived.Lib.Hide
import Derived.Deep.AppendLies
import Derived.Deep.Draws
import Derived.Maps.AppendAt
import Derived.RegionTactic
import Derived.Test.YtpeepcmdehhbgaaGreatDoorProg
set_option linter.all false
set_option maxRecDepth 100000
set_option maxHeartbeats 2000000
namespace Go
inductive aG|q
def J:aG:=.q
instance:CoeFun aG (fun _=>Int→Value):=⟨fun _=>Value.int .i64⟩
instance (b i:Nat):CoeDep (Nat×Nat) (b,i) Addr:=⟨⟨b,i,none⟩⟩
instance (b i:Nat):CoeDep (Nat×Nat) (b,i) Value:=⟨.pointer (some ⟨b,i,none⟩)⟩
instance:Coe World Nat:=⟨fun w=>w.heap.size⟩
instance:Coe Nat Value:=⟨fun b=>.pointer (some ⟨b,0,none⟩)⟩
instance:Coe Int Value:=⟨fun b=>.int .i64 b⟩
def ay:Bool:=false
instance:CoeDep Bool ay Value:=⟨.slice none 0 0⟩
instance:CoeDep Unit () Value:=⟨.int .i64 0⟩
instance:CoeDep String "" Value:=⟨.string ⟨#[]⟩⟩
def aj {p:Prop} (h:p:=by rfl):p:=h
def am {p:Prop} (h:p:=by decide):p:=h
def ap {p:Prop} (h:p:=by omega):p:=h
def aw {p:Prop} (h:p:=by kernel_rfl):p:=h
def az {α} (e:α):∃ x,RowKit.Hid (x=e):=⟨_,Lib.hid rfl⟩
def aE {α} (e:α):∃ x,x=e:=⟨_,rfl⟩
def aA {c:Prop} {h:Decidable c} (E:c) {α} {t e:α}:ite c t e=t:=if_pos E
def aB {c:Prop} {h:Decidable c} (E:¬c) {α} {t e:α}:ite c t e=e:=if_neg E
def aC {p:Prop} [i:Decidable p] (h:p):decide p=true:=decide_eq_true h
def aD {p:Prop} [i:Decidable p] (h:¬p):decide p=false:=decide_eq_false h
def aL:Bool:=false
instance:CoeDep Bool aL (Array Value):=⟨#[.int .i64 0,.int .i64 0,.slice none 0 0]⟩
def aK:Bool:=false
instance:CoeDep Bool aK (Array Value):=⟨#[.int .i64 0,.int .i64 0,.int .i64 0,.int .i64 0,.int .i64 0,.slice none 0 0,.string ⟨#[]⟩,.int .i64 0,.int .i64 0]⟩
def aJ:Bool:=false
instance:CoeDep Bool aJ (Array Value):=⟨#[.int .i64 0,.int .i64 0,.int .i64 0,.int .i64 0,.int .i64 0,.int .i64 0,.slice none 0 0,.string ⟨#[]⟩,.int .i64 0,.int .i64 0,.int .i64 0,.int .i64 0,.int .u64 0,.int .i64 0,.int .i64 0,.slice none 0 0,.int .i64 0,.int .i64 0]⟩
def aI:Bool:=false
instance:CoeDep Bool aI (Array Value):=⟨#[.int .i64 0,.int .i64 0,.int .i64 0,.int .i64 0,.int .i64 0,.int .i64 0,.int .i64 0,.slice none 0 0,.string ⟨#[]⟩,.int .i64 0,.int .i64 0,.int .i64 0,.int .i64 0,.int .u64 0,.int .i64 0,.int .i64 0,.slice none 0 0,.int .i64 0,.int .i64 0]⟩
def aH:Bool:=false
instance:CoeDep Bool aH (Array Value):=⟨#[.int .i64 0,.int .i64 0,.int .i64 0,.int .i64 0,.int .i64 0,.int .i64 0,.int .u64 0,.int .i64 0]⟩
inductive abr|q
def aV:abr:=.q
instance:CoeSort abr Type:=⟨fun _=>Nat→Prop⟩
inductive abt|q
def aU:abt:=.q
instance:CoeSort abt Type:=⟨fun _=>Option Addr⟩
inductive abu|q
def aT:abu:=.q
instance:CoeSort abu Type:=⟨fun _=>List UInt8⟩
inductive abv|q
def aR:abv:=.q
instance:CoeSort abv Type:=⟨fun _=>ByteArray⟩
inductive abw|q
def aQ:abw:=.q
instance:CoeSort abw Type:=⟨fun _=>List Nat⟩
inductive abx|q
def aP:abx:=.q
instance:CoeSort abx Type:=⟨fun _=>Array Value⟩
inductive aby|q
def aO:aby:=.q
instance:CoeSort aby Type:=⟨fun _=>Nat→Bool⟩
inductive abz|q
def aN:abz:=.q
instance:CoeSort abz Type:=⟨fun _=>List Int⟩
end Go
open Go.Value renaming int->ae,slice->Z,string->aX,bool->aY,agg->aZ,tuple->a_
open Go.Ending renaming returned->b5
open Go.IntKind renaming i64->af,u64->ah
open Go (J az aE aA aB aC aD ay aj am ap aw aL aK aJ aI aH aV aU aT aR aQ aP aO aN)
open Go.Proofs.Tryz renaming prog->W
open Go.Lib renaming hid->Q
open List renaming length_take->bn,take_succ_eq_append_getElem->br,eq_nil_of_length_eq_zero->bu,take_of_length_le->bH,length_drop->bO,range->bV
open Nat renaming lt_of_lt_of_le->bw,le_trans->bB,min_eq_left->cz,mul_le_mul_right->cK
open Go.Region renaming wanted->bN,noSelect->cZ
open Bool renaming and_eq_true->bU
open Go.Builtin renaming append_->cn
open Go renaming Value->K,World->X,Calls->dz,Addr->dA,TypeId->dC,Program->dD,Oper->dE,Act->dF,maxLen->dG
variable{P:dD}{w w0 O b c:X}{ops:Array dE}{abo:Go.Exit->dF->X->Prop}{A:Nat->List Nat}{a a0:dF}{o:dE}{n k B g k0 m M j:Nat}{t:dC}{l:aT}{cs:aP}{F:Int}{p:Prop}{u v:K}{R:K->X->Prop}
section
namespace Go.Hop
open Go.RowKit
def block_add(a:dA)(n:Nat):(a.add n).block=a.block:=by unfold Addr.add;split<;>rfl
def add_add(a:dA)(i j:Nat):(a.add i).add j=a.add (i+j):=by unfold Addr.add;by_cases hi:i=0<;>by_cases hj:j=0<;>simp[hi,hj,Nat.add_assoc]
def Reads(w:X)(B size:Nat)(A:aU)(n:Nat)(xs:List K):Prop:=xs.length=n*size∧(0<n->∃ad,A=some ad∧ad.block<B∧∀j u,xs[j]?=some u->w.cell? (ad.add j)=some u)
section
variable{B' size:Nat}{A:aU}{xs:List K}
def Reads.nil:Reads w B size A 0 []:=⟨by simp,λh=>absurd h ap⟩
def Reads.at_{k:Nat}(h:Reads w B 1 A n xs)(N:k<n):∃ad u,A=some ad∧ad.block<B∧xs[k]?=some u∧w.cell? (ad.add k)=some u:=by
 obtain⟨ad,e,hb,E⟩:=h.2 ap;have hl:k<xs.length:=by have:=h.1;omega
 exact⟨ad,xs[k],e,hb,List.getElem?_eq_getElem hl,E k _ (List.getElem?_eq_getElem hl)⟩
def Reads.keep(h:Reads w B size A n xs)(N:∀p:dA,p.block<B->O.cell? p=w.cell? p):Reads O B size A n xs:=
 ⟨h.1,λhn=>by obtain⟨ad,e,hb,E⟩:=h.2 hn;exact⟨ad,e,hb,λj u hu=>(N _ (by rw[block_add];exact hb)).trans (E j u hu)⟩⟩
def Reads.more(h:Reads w B size A n xs)(hB:B<=B'):Reads w B' size A n xs:=
 ⟨h.1,λhn=>by obtain⟨ad,e,hb,E⟩:=h.2 hn;exact⟨ad,e,by omega,E⟩⟩
def Reads.below(h:Reads w B size A n xs)(hb:Below B w O):Reads O B size A n xs:=h.keep λ_ hp=>hb.cell hp
theorem Reads.drew(h:Reads w B size A n xs):Reads w.drew B size A n xs:=h
theorem Reads.drewN(h:Reads w B size A n xs)(k:Nat):Reads (w.drewN k) B size A n xs:=h
theorem Reads.alloc(h:Reads w B size A n xs)(hB:B<=(w:Nat))(o:Obj):Reads (w.alloc o) B size A n xs:=h.keep λp hp=>World.cell?_alloc_lt w o p ap
theorem Reads.setCell(h:Reads w B size A n xs){p:dA}(hB:B<=p.block)(u:K):Reads (w.setCell p u) B size A n xs:=h.keep λq hq=>World.cell?_setCell_other w p q u (λe=>by subst e;omega)
def Reads.grown(h:Reads w B size A n xs){row:Option Nat}(H:w.grownBy O row)(hB:B<=(w:Nat))(hr:∀g,row=some g->B<=g):Reads O B size A n xs:=h.keep λp hp=>World.cell?_of_block (H.block p.block ap (λe=>by have:=hr _ e.symm;omega))
def Reads.cut(h:Reads w B size A n xs){cap:Nat}(N:k<=n)(E:n<=cap):Reads w B size (if cap=k then A else A.map (·.add (k*size))) (n-k) (xs.drop (k*size)):=by refine⟨by rw[bO,h.1,Nat.sub_mul],λhn=>?_⟩;obtain⟨ad,rfl,hb,ia⟩:=h.2 ap;rw[aB ap];refine⟨ad.add (k*size),rfl,by rw[block_add];exact hb,λj u hu=>?_⟩;rw[add_add];exact ia _ u (by rw[<-hu,List.getElem?_drop])
theorem Reads.take(h:Reads w B size A n xs){k:Nat}(N:k<=n):Reads w B size A k (xs.take (k*size)):=by
 refine⟨by rw[bn,h.1];exact cz (cK _ N),λhn=>?_⟩;obtain⟨ad,rfl,hb,ia⟩:=h.2 ap;refine⟨ad,rfl,hb,λj u hu=>ia j u ?_⟩;rw[List.getElem?_take] at hu;split at hu;·exact hu
 ·cases hu
end
def Kc:IntKind.u8.signed=false:=rfl
def FA:IntKind.u16.signed=false:=rfl
def FB:IntKind.u32.signed=false:=rfl
def FC:IntKind.u64.signed=false:=rfl
def FD:IntKind.i64.signed=true:=rfl
def Vp:IntKind.u8.max=255:=rfl
def QR:IntKind.u32.max=4294967295:=rfl
def QS:IntKind.u64.max=18446744073709551615:=rfl
attribute [go_sem] Kc FA FB FC FD Vp QR QS
def wrap_u64(n:Int):IntKind.u64.wrap n=n % 18446744073709551616:=by simp[IntKind.wrap,IntKind.bits,IntKind.signed]
def mq{k:IntKind}{a b:Int}(h:a=b):Ending.returned (.int k a)=b5 (.int k b):=by rw[h]
def kC{a b:Bool}(h:a=b):Ending.returned (aY a)=b5 (aY b):=by rw[h]
def Z9(p:Prop):Prop:=p
def stay(h:Z9 p):p:=h
def dI(h:p):Z9 p:=h
def kz(l:aT):List K:=l.map λx => .int .u8 x.toNat
@[simp] theorem u8s_length(l:aT):(kz l).length=l.length:=by simp[kz]
theorem Bm(h:(kz l)[k]?=some u):∃N:k<l.length,u=.int .u8 (l[k].toNat:Int):=by
 unfold kz at h;rw[List.getElem?_map] at h;have N:k<l.length:=by
  rcases Nat.lt_or_ge k l.length with I|I
  ·exact I
  ·rw[List.getElem?_eq_none I] at h;cases h
 refine⟨N,?_⟩;rw[List.getElem?_eq_getElem N] at h;simpa using h.symm
def iT(a b:aT):kz (a++b)=kz a++kz b:=by simp[kz]
def lx:∀u∈kz l,u.oneCell'=true:=by intro u hu;unfold kz at hu;obtain⟨x,_,rfl⟩:=List.mem_map.1 hu;rfl
def Bytes(w:X)(B:Nat)(A:aU)(n:Nat)(l:aT):Prop:=Reads w B 1 A n (kz l)
def Bytes.len{A:aU}(h:Bytes w B A n l):l.length=n:=by have:=h.1;simpa using this
theorem Bytes.at_{w:X}{B n k:Nat}{A:aU}{l:aT}(h:Bytes w B A n l)(N:k<n):∃(ad:dA)(hl:k<l.length),A=some ad∧w.cell? (ad.add k)=some (.int .u8 (l[k].toNat:Int)):=by obtain⟨ad,u,e,_,Y,E⟩:=Reads.at_ h N;obtain⟨hl,rfl⟩:=Bm Y;exact⟨ad,hl,e,E⟩
end Go.Hop
namespace Go.Hop
open Go.RowKit
structure Elem(P:dD)(t e:dC)(size bytes:Nat)(z:K):Prop where
 und:P.underlying t=some (.slice e)
 info:∃i,P.info? e=some i∧i.zero=some z∧i.size=size∧i.bytes=bytes
 zs:z.cells.size=size
 pos:0<size
 bpos:0<bytes
section
variable{e:dC}{size bytes:Nat}{z:K}
def rM(abl:Elem P t e size bytes z)(w:X)(base ty:Nat)(v:K)(n:Nat)(xs:List K)(im:w.ownsRow base e size v n xs)(c:Nat):(cn #[t,t] ty #[v,Z none 0 c]).run P w=.ok v w:=by
 obtain⟨i,hi,_,hs,_⟩:=abl.info;rcases im.2 with ⟨rfl,rfl⟩|⟨g,cap,cur,rfl,_,_,iS,_⟩
 ·simp[cn,run_underlying abl.und,sizeOf,typeInfo,hi,Builtin.lenOf,Builtin.firstCells]
 ·simp[cn,run_underlying abl.und,sizeOf,typeInfo,hi,Builtin.lenOf,Builtin.firstCells,iS,storeCells]
def oa(abl:Elem P t e size bytes z)(w:X)(base ty:Nat)(v:K)(n:Nat)(xs:List K)(im:w.ownsRow base e size v n xs)
 (B:Nat) (A:aU) (m c:Nat) (news:List K) (hr:Reads w B size A m news) (I:∀u∈news,u.oneCell'=true)
 (fw:(n+m)*bytes<=140737488355328) (V6:base<=(w:Nat)):∃v' O,(cn #[t,t] ty #[v,Z A m c]).run P w=.ok v' O∧O.ownsRow base e size v' (n+m) (xs++news)∧w.grownBy O v.ownBlock∧
   (v'.ownBlock=v.ownBlock∨v'.ownBlock=some (w:Nat)):=by
 have Mu:n+m<=dG:=by have:=Nat.le_mul_of_pos_right (n+m) abl.bpos;simp only[dG];omega
 obtain⟨i,hi,hz,hs,hb⟩:=abl.info
 by_cases hm:m=0
 ·subst hm
  obtain rfl:news=[]:=bu (by simpa using hr.1)
  cases A with
  | none=>exact⟨v,w,rM abl w base ty v n xs im c,by simpa using im,World.grownBy.refl w _,.inl rfl⟩
  | some ad=>
    obtain⟨v',O,eR,G,L,_,h5⟩:=run_append_own_at (P:=P) w base t ty e i z size bytes abl.und hi hz hs hb abl.zs abl.pos v n xs im ad 0 c [] (by simp) (by simp) I Mu fw V6
    exact⟨v',O,eR,G,L,h5⟩
 ·obtain⟨ad,rfl,_,E⟩:=hr.2 ap
  obtain⟨v',O,eR,G,L,_,h5⟩:=run_append_own_at (P:=P) w base t ty e i z size bytes abl.und hi hz hs hb abl.zs abl.pos v n xs im ad m c news hr.1 E I Mu fw V6
  exact⟨v',O,eR,G,L,h5⟩
end
def fF(w:X)(cs:aP)(e:dC)(mk:Nat×Nat){size:Nat}(h:cs.size=n*size)(g:Nat)(H:(w:Nat)=g):Reads (w.alloc (.cells cs e mk)) (g+1) size (some (g,0)) n cs.toList:=by
 subst H;refine⟨by simpa using h,λ_=>⟨_,rfl,by simp,λj u hu=>?_⟩⟩;have hh:(w.alloc (.cells cs e mk)).heap[(w:Nat)]?=some (.cells cs e mk):=heap_alloc_new w _;have qC:(⟨(w:Nat),0,none⟩:dA).add j=⟨(w:Nat),j,none⟩:=by unfold Addr.add;split<;>simp_all
 rw[qC,cell_of_row _ _ _ _ _ _ hh];simpa using hu
def eQ{a:X}(h:Below B a b)(k:Below (b:Nat) b c)(hB:B<=(b:Nat)):Below B a c:=h.trans (k.mono hB)
def eM(l:aT)(u:K)(w:X):Prop:=∃A n c,u=Z A n c∧Bytes w (w:Nat) A n l∧n<=c∧c<=dG
theorem eM.below{l:aT}{u:K}{w O:X}(h:eM l u w)(hb:Below (w:Nat) w O):eM l u O:=by obtain⟨A,n,c,e,I,G,L⟩:=h;exact⟨A,n,c,e,(Reads.below I hb).more hb.size,G,L⟩
def eJ(w:X)(g:Nat)(t:dC)(cs:aP):Prop:=w.heap[g]?=some (.cells cs t (0,0))
section
def eJ.lt(h:eJ w g t cs):g<(w:Nat):=(Array.getElem?_eq_some_iff.1 h).1
theorem eJ.cell(h:eJ w g t cs)(i:Nat):w.cell? ⟨g,i,none⟩=cs[i]?:=cell_of_row w g i cs t (0,0) h
theorem eJ.frozen(h:eJ w g t cs)(i:Nat):w.frozen? ⟨g,i,none⟩=false:=by unfold eJ at h;simp[World.frozen?,h]
def eJ.made(w:X)(t:dC)(cs:aP):eJ (w.alloc (.cells cs t)) (w:Nat) t cs:=heap_alloc_new w _
theorem eJ.alloc(h:eJ w g t cs)(o:Obj):eJ (w.alloc o) g t cs:=(Below.heap_alloc w o g h.lt).trans h
def eJ.put(h:eJ w g t cs)(i:Nat)(u:K):eJ (w.setCell ⟨g,i,none⟩ u) g t (cs.setIfInBounds i u):=by unfold eJ at h ⊢;simp[World.setCell,Array.getElem?_modify,h]
def eJ.far(h:eJ w g t cs){p:dA}(hp:g≠p.block)(u:K):eJ (w.setCell p u) g t cs:=(Below.heap_setCell w p u g hp).trans h
def eJ.below{B:Nat}(h:eJ w g t cs)(hb:Below B w O)(H:g<B):eJ O g t cs:=(hb.block g H).trans h
def eJ.grow(h:eJ w g t cs)(hb:Below (w:Nat) w O):eJ O g t cs:=h.below hb h.lt
theorem eJ.drew(h:eJ w g t cs):eJ w.drew g t cs:=h
end
def fI(g:Nat)(w O:X):Prop:=w.grownBy O (some g)
section
variable{a:X}
theorem fI.refl(g:Nat)(w:X):fI g w w:=World.grownBy.refl w _
theorem fI.trans(h:fI g a b)(k:fI g b c):fI g a c:=⟨k.os.trans h.os,k.tape.trans h.tape,k.output.trans h.output,bB h.size k.size,λi hi jT=>(k.block i (bw hi h.size) jT).trans (h.block i hi jT)⟩
def fI.dK(h:Below (a:Nat) a b):fI g a b:=⟨h.os,h.tape,h.output,h.size,λi hi _=>h.block i hi⟩
def fI.put(h:fI g a b)(i:Nat)(u:K):fI g a (b.setCell ⟨g,i,none⟩ u):=h.trans ⟨rfl,rfl,rfl,by simp[World.setCell],λk _ jT=>Below.heap_setCell b ⟨g,i,none⟩ u k (λe=>jT (by rw[e]))⟩
def fI.below{B:Nat}(h:fI g a b)(hB:B<=g)(hs:B<=(a:Nat)):Below B a b:=⟨h.os,h.tape,h.output,h.size,λk N=>h.block k ap (λe=>by injection e;omega)⟩
def fI.blk(h:fI g a b)(N:eJ a k t cs)(jT:k≠g):eJ b k t cs:=(h.block k N.lt (λe=>jT (by injection e))).trans N
end
end Go.Hop
end
section
namespace Go.Hop
open Go.RowKit
def Grow(w O:X):Prop:=Below (w:Nat) w O
theorem Grow.refl(w:X):Grow w w:=Below.refl _ _
theorem Grow.trans{a b c:X}(h:Grow a b)(k:Grow b c):Grow a c:=Below.trans h (k.mono h.size)
theorem Grow.drew{w O:X}(h:Grow w O):Grow w O.drew:=Below.drew h
structure QT where
 rel:X->X->Prop
 refl:∀w,rel w w
def QT.grow:QT:=⟨Grow,Grow.refl⟩
def gE(P:dD)(R:K->X->Prop):Result Next->Prop
 | .ok (.value u) O=>R u O
 | .ok .skip O=>R undef O
 | .ok (.enter f args) O=>dz P f args O (λe w''=>∃u,e=.returned u∧R u w'')
 | _=>False
abbrev Fact:=Nat->K->X->Prop
abbrev Kind:=Option (K ⊕ Fact)
structure jm where
 abf:X->X->Prop
 abm:Nat->X->X->Prop
 abd:Nat->X->Prop
 muts:List Nat
 stage:Nat->Option Nat
 q:QT:=QT.grow
def CR(j:Nat):List Nat->Nat->Option Nat
 | [],_=>none
 | x::l,t=>if x=j then some t else CR j l (t+1)
def jm.before(S:jm)(j k:Nat)(w:X):Prop:=S.abd k w∧∀k',S.stage j=some k'->k=k'
def jm.behind(S:jm)(j k:Nat)(w O:X):Prop:=match CR j S.muts 0 with
 | none=>S.q.rel w O
 | some _=>S.abm k w O∧S.abd (k+1) O
def jm.next(S:jm)(j k:Nat):Nat:=match CR j S.muts 0 with
 | none=>k
 | some _=>k+1
section
variable(P:dD)(ops:Array dE)(A:Nat->List Nat)(abk:Nat->Kind)(S:jm)(w0:X)(k0 m:Nat)
def Uh(i:Nat):Option Tmp:=(ops[i]?).bind (·.dst)
def sD(dH:aQ)(k:Nat):List (Nat×K×Fact)->X->Prop
 | [],_=>True
 | (i,v,φ)::F,w=>if dH.contains i then φ k v w∧sD dH k F w else sD dH k F w
def CS(k:Nat):List (Nat×K×Fact)->X->Prop
 | [],_=>True
 | (_,v,φ)::F,w=>φ k v w∧CS k F w
def wL(tail:dF->X->Prop):List dE->Nat->dF->List (Nat×K×Fact)->Prop
 | [],_,a,F=>∀w,S.abf w0 w->S.abd S.muts.length w->CS S.muts.length F w->tail a w
 | o::l,j,a,F=>
   if bN o (yielded ops a.tmps)=true then
    match abk j with
    | none=>∃v0,(∀k w,S.abf w0 w->S.before j k w->sD (A j) k F w->∃O,(execOp a.eval o).run P w=.ok (.value v0) O∧S.behind j k w O)∧wL tail l (j+1) (a.put o.dst v0) F
    | some (.inl c)=>(∀k w,S.abf w0 w->S.before j k w->sD (A j) k F w->gE P (λu O=>u=c∧S.behind j k w O) ((execOp a.eval o).run P w))∧wL tail l (j+1) (a.put o.dst c) F
    | some (.inr φ)=>(∀k w,S.abf w0 w->S.before j k w->sD (A j) k F w->gE P (λu O=>S.behind j k w O∧φ (S.next j k) u O) ((execOp a.eval o).run P w))∧∀v,wL tail l (j+1) (a.put o.dst v) ((j,v,φ)::F)
   else CR j S.muts 0=none∧wL tail l (j+1) (a.put o.dst undef) F
def laid(a0:dF)(D:Nat->K)(U:aO)(l:aQ):dF:=l.foldl (λa i=>if U i then a.put (Uh ops i) (D i) else a) a0
def nu(a0:dF)(D:Nat->K)(j:Nat):dF:=laid ops a0 D (λi=>decide (k0<=i)) (bV j)
def wantedAt(a0:dF)(D:Nat->K)(i:Nat):Prop:=∃o,ops[i]?=some o∧bN o (yielded ops (nu ops k0 a0 D i).tmps)=true
def Bn(a0:dF)(D:Nat->K)(dH:aQ)(k:Nat)(w:X):Prop:=∀i φ,i∈dH->abk i=some (.inr φ)->wantedAt ops k0 a0 D i->φ k (D i) w
def ahead(j:Nat):List Nat:=(A j).filter λi=>decide (k0<=i)&&decide (i<j)
structure a5S(a0:dF)(V D:Nat->K):Prop where
 skip:∀j o,k0<=j->j<m->ops[j]?=some o->bN o (yielded ops (nu ops k0 a0 D j).tmps)=false->D j=undef∧CR j S.muts 0=none
 det:∀j o,k0<=j->j<m->ops[j]?=some o->bN o (yielded ops (nu ops k0 a0 D j).tmps)=true->abk j=none->
  ∀k w,S.abf w0 w->S.before j k w->Bn ops abk k0 a0 D (ahead A k0 j) k w->∃O,(execOp (nu ops k0 a0 D j).eval o).run P w=.ok (.value (D j)) O∧S.behind j k w O
 val:∀j o c,k0<=j->j<m->ops[j]?=some o->bN o (yielded ops (nu ops k0 a0 D j).tmps)=true->abk j=some (.inl c)->
  D j=c∧∀k w,S.abf w0 w->S.before j k w->Bn ops abk k0 a0 D (ahead A k0 j) k w->gE P (λu O=>u=c∧S.behind j k w O) ((execOp (nu ops k0 a0 D j).eval o).run P w)
 any:∀j o φ,k0<=j->j<m->ops[j]?=some o->bN o (yielded ops (nu ops k0 a0 D j).tmps)=true->abk j=some (.inr φ)->
  D j=V j∧∀k w,S.abf w0 w->S.before j k w->Bn ops abk k0 a0 D (ahead A k0 j) k w->gE P (λu O=>S.behind j k w O∧φ (S.next j k) u O) ((execOp (nu ops k0 a0 D j).eval o).run P w)
end
structure FlowOk(ops:Array dE)(A:Nat->List Nat):Prop where
 sel:cZ ops=true
 near:∀j o i,ops[j]?=some o->i∈A j->∃e∈o.after,Region.binds .any e=true∧(e.on=i∨i∈A e.on)
 back:∀j o e,ops[j]?=some o->e∈o.after->Region.binds .any e=true->e.on<j
 clash:∀j o i t,ops[j]?=some o->i≠j->Uh ops i=some t->(t∈o.looksAt ops∨o.dst=some t)->(i<j->i∈A j)∧(j<i->j∈A i)
structure StagesOk(A:Nat->List Nat)(k0 m:Nat)(muts:List Nat)(stage:Nat->Option Nat):Prop where
 own:∀(t i:Nat),muts[t]?=some i->k0<=i∧i<m∧stage i=some t∧∀(s i':Nat),s<t->muts[s]?=some i'->i'∈A i
 low:∀(j k:Nat),k0<=j->j<m->stage j=some k->k<=muts.length∧(∀(t i:Nat),t<k->muts[t]?=some i->i∈A j)∧∀(t i:Nat),k<=t->muts[t]?=some i->i=j∨j∈A i
section
def tZ(n k:Nat):Array Bool:=(Array.range n).map λi=>decide (i<k)
def Yq(P:dD)(ops:Array dE)(abo:Exit->dF->X->Prop)(k:Nat)(a:dF)(w:X):Prop:=wpAny P .any ops abo (ops.size-k) (tZ ops.size k) a w
def cnt(U:aO)(l:aQ):Nat:=(l.filter λi => !U i).length
end
section
variable{abk:Nat->Kind}{S:jm}
def since(k0:Nat)(listed:Array Bool)(i:Nat):Bool:=decide (k0<=i)&&listed.getD i false
end
section
variable{abk:Nat->Kind}{S:jm}
structure FInv(P:dD)(ops:Array dE)(A:Nat->List Nat)(abk:Nat->Kind)(S:jm)(w0:X)(k0 m:Nat)(a0:dF)(listed:Array Bool)(a:dF)(w:X):Prop where
 size:listed.size=ops.size
 down:∀j i,listed.getD j false=true->i∈A j->listed.getD i false=true
 low:∀i,i<k0->listed.getD i false=true
 flow:∀j,listed.getD j false=true->j<m
 grow:S.abf w0 w
 stg:∃k,k<=S.muts.length∧(∀(t i:Nat),S.muts[t]?=some i->(listed.getD i false=true↔t<k))∧S.abd k w∧
  ∃Vs:Nat->K,∀V D,(∀i,listed.getD i false=true->V i=Vs i)->a5S P ops A abk S w0 k0 m a0 V D->
  a=laid ops a0 D (since k0 listed) (bV ops.size)∧∀i φ,k0<=i->listed.getD i false=true->abk i=some (.inr φ)->wantedAt ops k0 a0 D i->φ k (D i) w
end
section
variable{abk:Nat->Kind}{S:jm}
end
def QU(φ:K->X->Prop):Prop:=∀u w O,φ u w->Grow w O->φ u O
def quiet:jm:={ abf:=Grow,abm:=λ_ _ _=>False,abd:=λ_ _=>True,muts:=[],stage:=λ_=>none }
structure jm.Ok(S:jm):Prop where
 trans:∀a b c,S.abf a b->S.abf b c->S.abf a c
 grow:∀a b,S.q.rel a b->S.abf a b
 turn:∀k a b,S.abm k a b->S.abf a b
 stay:∀k a b,S.abd k a->S.q.rel a b->S.abd k b
def dJ{id:Nat}(a3E:P.follows .mixedOrders=true)(h:Yq P ops abo 0 a w.drew):(Code.region id ops true).wp P abo a w:=by
 refine wp_region_any a3E ?_;unfold Yq at h;have e:tZ ops.size 0=Array.replicate ops.size false:=by
  apply Array.ext;·simp[tZ]
  ·intro i I G;simp[tZ]
 rw[e] at h;exact h
end Go.Hop
namespace Go.Hop
open Go.RowKit
section
variable{abk:Nat->Kind}{S:jm}{tail:dF->X->Prop}{l:List dE}{F:List (Nat×K×Fact)}
end
def fits(n:Nat)(abn:List (Tmp×K)):Prop:=∀x∈abn,x.1<n
def gv{r:Result Next}(hr:r=.ok (.value u) w)(h:R u w):gE P R r:=by rw[hr];exact h
section
variable{abk:Nat->Kind}{S:jm}{abm:dF->X->Prop}{l:List dE}{abn:List (Tmp×K)}{F:List (Nat×K×Fact)}
end
def t_{f:FuncId}{args:aP}(h:dz P f args w (λe O=>e=b5 v∧w=O)):dz P f args w (λe O=>e=b5 v∧Grow w O):=h.mono λ_ _ ⟨he,hw⟩=>⟨he,hw▸Grow.refl _⟩
structure dM(V:Nat->Prop)(a b:X):Prop where
 os:b.os=a.os
 tape:b.tape=a.tape
 output:b.output=a.output
 size:(a:Nat)<=(b:Nat)
 block:∀k,k<(a:Nat)->¬ V k->b.heap[k]?=a.heap[k]?
section
variable{V V':aV}{a:X}
def dM.dK(h:Grow a b):dM V a b:=⟨h.os,h.tape,h.output,h.size,λk N _=>h.block k N⟩
def dM.jA(h:fI g a b)(H:V g):dM V a b:=⟨h.os,h.tape,h.output,h.size,λk N hv=>h.block k N (λe=>hv (by injection e with e;rw[e];exact H))⟩
theorem dM.trans(h:dM V a b)(k:dM V b c):dM V a c:=⟨k.os.trans h.os,k.tape.trans h.tape,k.output.trans h.output,bB h.size k.size,λi hi hv=>(k.block i (bw hi h.size) hv).trans (h.block i hi hv)⟩
def dM.imp(h:dM V a b)(hi:∀k,V k->V' k):dM V' a b:=⟨h.os,h.tape,h.output,h.size,λk N hv=>h.block k N (λe=>hv (hi k e))⟩
def dM.blk(h:dM V a b)(N:eJ a k t cs)(hv:¬ V k):eJ b k t cs:=(h.block k N.lt hv).trans N
def dM.below(h:dM V a b){B:Nat}(hV:∀k,V k->B<=k)(hs:B<=(a:Nat)):Below B a b:=⟨h.os,h.tape,h.output,h.size,λk N=>h.block k ap (λe=>by have:=hV k e;omega)⟩
end
end Go.Hop
end
namespace Go.Hop
open RowKit
theorem fV{rest:List dE}(hw:bN o (yielded ops a.tmps)=true)(h:gE P R ((execOp a.eval o).run P w))(N:∀u O,R u O->wpList P ops abo rest (a.put o.dst u) O):wpList P ops abo (o::rest) a w:=by
 unfold wpList;rw[aA hw];refine .inl ?_;unfold Oper.wp;generalize (execOp a.eval o).run P w=r at h;cases r with
 | ok n O=>
   cases n with
   | value u=>exact N u O h
   | skip=>exact N undef O h
   | enter f vs=>exact Calls.mono h (λe w'' ⟨u,he,hr⟩=>by subst he;exact N u w'' hr)
   | _=>exact h.elim
 | halt _ _=>exact h.elim
def Res(a:dF)(o:dE)(abk:dF->Prop)(w:X):Result Next->Prop
 | .ok (.value v) O=>O=w∧abk (a.put o.dst v)
 | _=>False
def Ke{abk:dF->Prop}:Res a o abk w (.ok (.value v) O)=(O=w∧abk (a.put o.dst v)):=rfl
attribute [go_sem] Ke
section
variable{abm:dF->Prop}{l:List dE}
def FE(P:dD)(ops:Array dE)(abm:dF->Prop):List dE->dF->X->Prop
 | [],a,_=>abm a
 | o::l,a,w=>if bN o (yielded ops a.tmps)=true then Res a o (λa'=>FE P ops abm l a' w) w ((execOp a.eval o).run P w) else FE P ops abm l (a.put o.dst undef) w
end
attribute [irreducible] FE
end Go.Hop
namespace Go.Proofs.YtpeepcmdehhbgaaGreatDoor.V
open RowKit Hop
def a1j:BitVec 32:=0xedb88320#32
def stepT(c:BitVec 32):BitVec 32:=(c >>> 1) ^^^ (if c.getLsbD 0 then a1j else 0#32)
def zH:Nat->BitVec 32->BitVec 32
 | 0,c=>c
 | n+1,c=>stepT (zH n c)
def next(c:BitVec 32)(b:UInt8):BitVec 32:=zH 8 (c ^^^ b.toBitVec.setWidth 32)
def IA(a b:BitVec 32):bits .xor .u32 (a.toNat:Int) (b.toNat:Int)=((a ^^^ b).toNat:Int):=by show IntKind.u32.wrap ((BitVec.ofInt 32 (a.toNat:Int) ^^^ BitVec.ofInt 32 (b.toNat:Int)).toNat:Int)=_;rw[BitVec.ofInt_natCast,BitVec.ofInt_natCast,BitVec.ofNat_toNat,BitVec.ofNat_toNat,BitVec.setWidth_eq,BitVec.setWidth_eq,IntKind.wrap_u32'];omega
def Za(a b:BitVec 32):bits .and .u32 (a.toNat:Int) (b.toNat:Int)=((a &&& b).toNat:Int):=by show IntKind.u32.wrap ((BitVec.ofInt 32 (a.toNat:Int) &&& BitVec.ofInt 32 (b.toNat:Int)).toNat:Int)=_;rw[BitVec.ofInt_natCast,BitVec.ofInt_natCast,BitVec.ofNat_toNat,BitVec.ofNat_toNat,BitVec.setWidth_eq,BitVec.setWidth_eq,IntKind.wrap_u32'];omega
def Zb(x:BitVec 32):bits .and .u32 (x.toNat:Int) 1=if x.getLsbD 0 then 1 else 0:=by
 have h:=Za x 1#32;have e:((1#32).toNat:Int)=1:=by decide
 rw[e] at h;rw[h];have:(x &&& 1#32)=if x.getLsbD 0 then 1#32 else 0#32:=by
  ext i hi;by_cases h0:i=0;·subst h0;cases h:x[0]<;>simp[h]
  ·have I:(1#32)[i]=false:=by simp[BitVec.getElem_one,h0]
   simp only[BitVec.getElem_and,I,Bool.and_false];split<;>simp[h0]
 rw[this];split<;>rfl
def Vq(x:BitVec 32):bits .xor .u32 (↑x.toNat / 2) (3988292384*bits .and .u32 ↑x.toNat 1 % 4294967296)=((stepT x).toNat:Int):=by
 rw[Zb];have e:((x.toNat:Int) / (2:Int))=((x >>> 1).toNat:Int):=by rw[BitVec.toNat_ushiftRight,Nat.shiftRight_eq_div_pow];omega
 rw[e];unfold stepT;split;·exact IA (x >>> 1) a1j
 ·exact IA (x >>> 1) 0#32
def MF(c:BitVec 32)(b:UInt8)(w:X):dz W 256 #[.int .u32 c.toNat,.int .u8 b.toNat] w λe O=>e=b5 (.int .u32 (next c b).toNat)∧w=O:=by
 have hb:(b.toNat:Int) % 4294967296=((b.toBitVec.setWidth 32).toNat:Int):=by have:=b.toNat_lt;simp only[BitVec.toNat_setWidth,UInt8.toNat_toBitVec];omega
 have Y:=IA c (b.toBitVec.setWidth 32);rw[<-hb] at Y;have HX:=Q Y;clear hb Y;go_in;go_wp2;go_loop [0,5,10] (λv _ i=>∃k:Nat,k<=8∧i=J k∧v=.int .u32 (zH k (c ^^^ b.toBitVec.setWidth 32)).toNat) (λ_ _ i=>8-(intOf i).toNat);case atStart=>exact⟨0,by omega,rfl,by rw[HX.out];rfl⟩
 case round=>
  obtain⟨k,N,rfl,rfl⟩:=hrel;by_cases h:k<8
  ·have hs0:zH (k+1) (c ^^^ b.toBitVec.setWidth 32)=stepT (zH k (c ^^^ b.toBitVec.setWidth 32)):=rfl
   have hs:=Q hs0;clear hs0;generalize zH k (c ^^^ b.toBitVec.setWidth 32)=x at hs;go_wp2;go_round;case rel=>exact⟨k+1,by omega,by go_num,by rw[Vq,hs.out]⟩
   case measure=>simp[intOf];omega
  ·obtain rfl:k=8:=by omega
   go_wp2;go_ret;exact⟨rfl,rfl⟩
def run(c:BitVec 32)(l:aT):BitVec 32:=l.foldl next c
def MG(c:BitVec 32)(l:aT)(k:Nat)(h:k<l.length):run c (l.take (k+1))=next (run c (l.take k)) l[k]:=by unfold run;rw[br h,List.foldl_append];rfl
def Vr(c:BitVec 32)(A:aU)(n cap:Nat)(l:aT)(w:X)(B:Nat)(h:Bytes w B A n l)(hn:n<=dG):dz W 194 #[.int .u32 c.toNat,Z A n cap] w λe O=>e=b5 (.int .u32 (run c l).toNat)∧w=O:=by
 unfold dG at hn;have fj:=h.len;go_in;go_wp2;go_loop [0,6,9] (λv _ i=>∃k:Nat,k<=n∧i=J k∧v=.int .u32 (run c (l.take k)).toNat) (λ_ _ i=>n-(intOf i).toNat);case atStart=>exact⟨0,by omega,rfl,rfl⟩
 case round=>
  obtain⟨k,N,rfl,rfl⟩:=hrel;by_cases fS:k<n
  ·obtain⟨ad,hl,rfl,E⟩:=h.at_ fS
   have hs:=Q (MG c l k hl);go_wp2_with (go_at_call 256;refine (MF _ _ _).mono ?_;rintro e O ⟨rfl,rfl⟩);go_round;case rel=>exact⟨k+1,by omega,by go_num,by rw[hs.out]⟩
   case measure=>simp[intOf];omega
  ·obtain rfl:k=n:=by omega
   go_wp2;go_ret;exact⟨mq (by rw[bH ap]),rfl⟩
def Zc(a:BitVec 32):bits .xor .u32 4294967295 (a.toNat:Int)=((~~~a).toNat:Int):=by have h:=IA (BitVec.allOnes 32) a;rw[BitVec.allOnes_xor] at h;exact h
def XW:BitVec 32:=BitVec.allOnes 32
def MH:(4294967295:Int)=(XW.toNat:Int):=by decide
def crc(l:aT):BitVec 32 := ~~~(run XW l)
def FG(A:aU)(n cap:Nat)(l:aT)(w:X)(B:Nat)(h:Bytes w B A n l)(hn:n<=dG):dz W 136 #[Z A n cap] w λe O=>e=b5 (.int .u32 (crc l).toNat)∧w=O:=by have E:=Vr XW A n cap l w B h hn;rw[<-MH] at E;have HC:=Q E;clear E;go_in;go_wp2_with (go_at_call 194;refine (HC.out).mono ?_;rintro e O ⟨rfl,rfl⟩);go_ret;exact⟨mq (Zc _),rfl⟩
end Go.Proofs.YtpeepcmdehhbgaaGreatDoor.V
namespace Go.Proofs.YtpeepcmdehhbgaaGreatDoor.abq
def far(F n:Int):Bool:=decide (F<n)&&decide (64<=n-F-1)
def seen(F:Int)(M:Nat)(n:Int):Bool:=decide (n<=F)||(!far F n&&M.testBit (n-F-1).toNat)
def strip:Nat->Int->Nat->Int×Nat
 | 0,F,M=>(F,M)
 | k+1,F,M=>if M % 2=1 then strip k (F+1) (M / 2) else (F,M)
def put(F:Int)(M:Nat)(n:Int):Int×Nat:=strip 64 F (M ||| 2 ^ (n-F-1).toNat)
structure jW(F:Int)(M:Nat):Prop where
 lo:0<=F
 hi:F<=9223372036854775807
 mask:M<18446744073709551616
 top:∀i,M.testBit i=true->F+1+(i:Int)<=9223372036854775807
def jW.none:jW 0 0:=⟨by omega,by omega,by omega,λi h=>by simp at h⟩
def jW.step(h:jW F M)(ho:M % 2=1):jW (F+1) (M / 2):=by have h0:=h.top 0 (by rw[Nat.testBit_zero];simpa using ho);have:=h.lo;have:=h.mask;refine⟨by omega,by omega,by omega,λi hi=>?_⟩;have:=h.top (i+1) (by rw[Nat.testBit_succ];exact hi);omega
theorem jW.strip:∀(k:Nat){F:Int}{M:Nat},jW F M->jW (strip k F M).1 (strip k F M).2
 | 0,_,_,h=>h
 | k+1,F,M,h=>by
   unfold Go.Proofs.YtpeepcmdehhbgaaGreatDoor.abq.strip;split;·rename_i ho;exact jW.strip k (h.step ho)
   ·exact h
theorem jW.put{F:Int}{M:Nat}(h:jW F M){n:Int}(hn:n<=9223372036854775807)(I:F<n)(G:n-F-1<64):jW (put F M n).1 (put F M n).2:=by
 refine jW.strip 64 ⟨h.lo,h.hi,?_,λi hi=>?_⟩;·exact Nat.or_lt_two_pow (n:=64) h.mask (Nat.pow_lt_pow_right ap ap)
 ·rw[Nat.testBit_or,Bool.or_eq_true] at hi
  rcases hi with hi|hi
  ·exact h.top i hi
  ·rw[Nat.testBit_two_pow] at hi
   have:(n-F-1).toNat=i:=by simpa using hi
   omega
def Kf(F:Int)(M:Nat)(n:Int):Bool := !(far F n||seen F M n)
def ij(F:Int)(M:Nat)(n:Int):Int×Nat:=if Kf F M n then Go.Proofs.YtpeepcmdehhbgaaGreatDoor.abq.put F M n else (F,M)
def wM{n:Int}(h:Kf F M n=true):F<n∧n-F-1<64∧M.testBit (n-F-1).toNat=false:=by
 unfold Kf seen far at h;simp only[Bool.not_eq_true',Bool.or_eq_false_iff,Bool.and_eq_false_iff,decide_eq_false_iff_not,Bool.not_eq_false'] at h;obtain⟨I,G,L⟩:=h;have fS:F<n:=by omega
 refine⟨fS,by omega,?_⟩;rcases L with L|L
 ·simp only[bU,decide_eq_true_eq] at L;omega
 ·exact L
def jW.add(h:jW F M){n:Int}(hn:n<=9223372036854775807):jW (ij F M n).1 (ij F M n).2:=by
 unfold ij;split
 ·rename_i hb
  obtain⟨I,G,_⟩:=wM hb;exact h.put hn I G
 ·exact h
end Go.Proofs.YtpeepcmdehhbgaaGreatDoor.abq
