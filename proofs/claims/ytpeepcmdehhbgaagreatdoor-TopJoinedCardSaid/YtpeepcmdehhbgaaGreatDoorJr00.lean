/- Base, Flow2, Quiet, Own, Own2, Recs, More, Sep, Sepb, Gmap, Acc, St, Accb, Big, Put, Wk, Still, Tab, Sta, Rw, Catr, Gro, Hld, Fresh, Rng, Newx, Hldk, Hlt, Mt, Rgm, Str, Rowk, Wiplain, Kit, Vplain, Bts, Vput. -/
import Derived.WalkKit
import Derived.WalkSpells
import Derived.WalkLawsBesides
import Derived.Lib.Hide
import Derived.Deep.AppendLies
import Derived.Deep.Draws
import Derived.Maps.AppendAt
import Derived.RegionTactic
import Derived.Deep.QuietTactic
import Derived.BigQuiet
import Derived.StillTailTactics
import Derived.Deep.Upon
import Derived.Laws.IdiomStrings
import Derived.Laws.BytesArg
import Derived.Lib.SliceRun
import Derived.Maps.Own
import Derived.Maps.OwnSet
import Derived.Laws.StructEq
import Derived.Laws.Rows
import Derived.Deep.MidRow
import Derived.OrdersHeld
import Derived.ArgAppend
import Derived.Maps.RangeRun
import Derived.Lib.AppendStr
import Derived.ProofKit
import Derived.OpenShut
import Derived.JoinedCond
import Derived.Test.YtpeepcmdehhbgaaGreatDoorProg
import Derived.Lib.SlBytesConst
set_option linter.all false
set_option maxRecDepth 100000
namespace Go
inductive aG|q
def J:aG:=.q
instance:CoeFun aG (fun _=>Int→Value):=⟨fun _=>Value.int .i64⟩
instance (b i:Nat):CoeDep (Nat×Nat) (b,i) Addr:=⟨⟨b,i,none⟩⟩
instance (b i:Nat):CoeDep (Nat×Nat) (b,i) Value:=⟨.pointer (some ⟨b,i,none⟩)⟩
instance:Coe World Nat:=⟨fun w=>w.heap.size⟩
instance:Coe Nat Value:=⟨fun b=>.pointer (some ⟨b,0,none⟩)⟩
instance:Coe Int Value:=⟨fun b=>.int .i64 b⟩
def ay:Bool:=false
instance:CoeDep Bool ay Value:=⟨.slice none 0 0⟩
instance:CoeDep Unit () Value:=⟨.int .i64 0⟩
instance:CoeDep String "" Value:=⟨.string ⟨#[]⟩⟩
def aj {p:Prop} (h:p:=by rfl):p:=h
def am {p:Prop} (h:p:=by decide):p:=h
def ap {p:Prop} (h:p:=by omega):p:=h
def aw {p:Prop} (h:p:=by kernel_rfl):p:=h
def az {α} (e:α):∃ x,RowKit.Hid (x=e):=⟨_,Lib.hid rfl⟩
def aE {α} (e:α):∃ x,x=e:=⟨_,rfl⟩
def aA {c:Prop} {h:Decidable c} (hc:c) {α} {t e:α}:ite c t e=t:=if_pos hc
def aB {c:Prop} {h:Decidable c} (hc:¬c) {α} {t e:α}:ite c t e=e:=if_neg hc
def aC {p:Prop} [i:Decidable p] (h:p):decide p=true:=decide_eq_true h
def aD {p:Prop} [i:Decidable p] (h:¬p):decide p=false:=decide_eq_false h
def aL:Bool:=false
instance:CoeDep Bool aL (Array Value):=⟨#[.int .i64 0,.int .i64 0,.slice none 0 0]⟩
def aK:Bool:=false
instance:CoeDep Bool aK (Array Value):=⟨#[.int .i64 0,.int .i64 0,.int .i64 0,.int .i64 0,.int .i64 0,.slice none 0 0,.string ⟨#[]⟩,.int .i64 0,.int .i64 0]⟩
def aJ:Bool:=false
instance:CoeDep Bool aJ (Array Value):=⟨#[.int .i64 0,.int .i64 0,.int .i64 0,.int .i64 0,.int .i64 0,.int .i64 0,.slice none 0 0,.string ⟨#[]⟩,.int .i64 0,.int .i64 0,.int .i64 0,.int .i64 0,.int .u64 0,.int .i64 0,.int .i64 0,.slice none 0 0,.int .i64 0,.int .i64 0]⟩
def aI:Bool:=false
instance:CoeDep Bool aI (Array Value):=⟨#[.int .i64 0,.int .i64 0,.int .i64 0,.int .i64 0,.int .i64 0,.int .i64 0,.int .i64 0,.slice none 0 0,.string ⟨#[]⟩,.int .i64 0,.int .i64 0,.int .i64 0,.int .i64 0,.int .u64 0,.int .i64 0,.int .i64 0,.slice none 0 0,.int .i64 0,.int .i64 0]⟩
def aH:Bool:=false
instance:CoeDep Bool aH (Array Value):=⟨#[.int .i64 0,.int .i64 0,.int .i64 0,.int .i64 0,.int .i64 0,.int .i64 0,.int .u64 0,.int .i64 0]⟩
inductive aew|q
def aV:aew:=.q
instance:CoeSort aew Type:=⟨fun _=>Nat→Prop⟩
inductive aex|q
def aU:aex:=.q
instance:CoeSort aex Type:=⟨fun _=>Option Addr⟩
inductive aey|q
def aT:aey:=.q
instance:CoeSort aey Type:=⟨fun _=>List UInt8⟩
inductive aez|q
def aR:aez:=.q
instance:CoeSort aez Type:=⟨fun _=>ByteArray⟩
inductive aeA|q
def aQ:aeA:=.q
instance:CoeSort aeA Type:=⟨fun _=>List Nat⟩
inductive aeB|q
def aP:aeB:=.q
instance:CoeSort aeB Type:=⟨fun _=>Array Value⟩
inductive aeC|q
def aO:aeC:=.q
instance:CoeSort aeC Type:=⟨fun _=>Nat→Bool⟩
inductive aeD|q
def aN:aeD:=.q
instance:CoeSort aeD Type:=⟨fun _=>List Int⟩
end Go
open Go.Value renaming int->ae,slice->Y,string->aX,bool->aY,agg->aZ,tuple->a_
open Go.Ending renaming returned->b5
open Go.IntKind renaming i64->af,u64->ah
open Go (J az aE aA aB aC aD ay aj am ap aw aL aK aJ aI aH aV aU aT aR aQ aP aO aN)
open Go.Proofs.Tryz renaming prog->N,underlying9->c_,underlying23->dh,underlying5->dw
open Go.Lib renaming hid->Q
open List renaming length_append->bd,length_map->bj,append_nil->bm,length_take->bn,append_assoc->bp,eq_nil_of_length_eq_zero->bv,length_singleton->bw,length_cons->bC,getElem_mem->bD,range->bF,take_of_length_le->bH,map_append->bM,flatMap_cons->bN,flatMap_append->bO,drop_eq_getElem_cons->bR,length_drop->bU,mem_cons_of_mem->bV,map_cons->bX,mem_of_mem_take->bY,mem_cons->b_,length_nil->cx,drop_of_length_le->cB,nil_append->cC,take_succ_cons->cD,size_toArray->cE,cons_append->cH,flatMap_nil->cI,drop_succ_cons->cJ,map_nil->cS,contains_iff_mem->cV,map_toArray->cZ,drop_zero->d9,filter_eq_self->de,length_filter_le->df,length_set->dq,getElem_map->dt,mem_of_mem_eraseIdx->dz,take_append_drop->dA
open Nat renaming le_refl->bh,zero_le->bo,lt_of_lt_of_le->bu,le_trans->bA,eq_zero_or_pos->cn,min_eq_left->cF,mul_le_mul_right->cK,zero_add->cL,mul_one->cO,lt_or_ge->cR
open Go.Region renaming wanted->bz,ready->cz,noSelect->cY
open Bool renaming and_eq_true->bP,false_ne_true->cj
open Go.Builtin renaming zeroCells->bQ,append_->cA
open Array renaming length_toList->ch
open Option renaming map_some->dp
open Go renaming Value->E,World->G,Calls->dF,Addr->dG,TypeId->dH,Program->dI,Oper->dJ,Act->dK,maxLen->dL
variable{w O w0 w1 w2:G}{P Pr:dI}{o:dJ}{n k j i bytes B m g c k0 m1 b M r b0:Nat}{t e kt et ty:dH}{a a' a0:dK}{v z u v0:E}{ops:Array dJ}{aes:Go.Exit->dK->G->Prop}{V U V' P':aV}{cs args:aP}{xs news:List E}{l:aT}{rest:List dJ}{A:aU}{φ R:E->G->Prop}{listed aev:Array Bool}{st:List (Nat×Nat)}{S I0:G->Prop}{aeq:dK->G->Prop}{x:Go.Operand}{ρ:Go.Operand->E}{Bs muts dM ks bs:aQ}{F:Int}{p:Prop}{D D':Nat->E}{aer:dK->Prop}
section
namespace Go.Hop
open Go.RowKit
def block_add(a:dG)(n:Nat):(a.add n).block=a.block:=by unfold Addr.add;split<;>rfl
def add_add(a:dG)(i j:Nat):(a.add i).add j=a.add (i+j):=by unfold Addr.add;by_cases hi:i=0<;>by_cases hj:j=0<;>simp[hi,hj,Nat.add_assoc]
def Reads(w:G)(B size:Nat)(A:aU)(n:Nat)(xs:List E):Prop:=xs.length=n*size∧(0<n->∃ad,A=some ad∧ad.block<B∧∀j u,xs[j]?=some u->w.cell? (ad.add j)=some u)
section
variable{B' size:Nat}
def Reads.nil:Reads w B size A 0 []:=⟨by simp,λh=>absurd h ap⟩
def Reads.at_{k:Nat}(h:Reads w B 1 A n xs)(K:k<n):∃ad u,A=some ad∧ad.block<B∧xs[k]?=some u∧w.cell? (ad.add k)=some u:=by
 obtain⟨ad,e,hb,hc⟩:=h.2 ap;have hl:k<xs.length:=by have:=h.1;omega
 exact⟨ad,xs[k],e,hb,List.getElem?_eq_getElem hl,hc k _ (List.getElem?_eq_getElem hl)⟩
def Reads.keep(h:Reads w B size A n xs)(K:∀p:dG,p.block<B->O.cell? p=w.cell? p):Reads O B size A n xs:=
 ⟨h.1,λhn=>by obtain⟨ad,e,hb,hc⟩:=h.2 hn;exact⟨ad,e,hb,λj u hu=>(K _ (by rw[block_add];exact hb)).trans (hc j u hu)⟩⟩
def Reads.more(h:Reads w B size A n xs)(hB:B<=B'):Reads w B' size A n xs:=
 ⟨h.1,λhn=>by obtain⟨ad,e,hb,hc⟩:=h.2 hn;exact⟨ad,e,by omega,hc⟩⟩
def Reads.below(h:Reads w B size A n xs)(hb:Below B w O):Reads O B size A n xs:=h.keep λ_ hp=>hb.cell hp
theorem Reads.alloc(h:Reads w B size A n xs)(hB:B<=(w:Nat))(o:Obj):Reads (w.alloc o) B size A n xs:=h.keep λp hp=>World.cell?_alloc_lt w o p ap
theorem Reads.setCell(h:Reads w B size A n xs){p:dG}(hB:B<=p.block)(u:E):Reads (w.setCell p u) B size A n xs:=h.keep λq hq=>World.cell?_setCell_other w p q u (λe=>by subst e;omega)
def Reads.cut(h:Reads w B size A n xs){cap:Nat}(K:k<=n)(hc:n<=cap):Reads w B size (if cap=k then A else A.map (·.add (k*size))) (n-k) (xs.drop (k*size)):=by refine⟨by rw[bU,h.1,Nat.sub_mul],λhn=>?_⟩;obtain⟨ad,rfl,hb,iT⟩:=h.2 ap;rw[aB ap];refine⟨ad.add (k*size),rfl,by rw[block_add];exact hb,λj u hu=>?_⟩;rw[add_add];exact iT _ u (by rw[<-hu,List.getElem?_drop])
theorem Reads.take(h:Reads w B size A n xs){k:Nat}(K:k<=n):Reads w B size A k (xs.take (k*size)):=by
 refine⟨by rw[bn,h.1];exact cF (cK _ K),λhn=>?_⟩;obtain⟨ad,rfl,hb,iT⟩:=h.2 ap;refine⟨ad,rfl,hb,λj u hu=>iT j u ?_⟩;rw[List.getElem?_take] at hu;split at hu;·exact hu
 ·cases hu
end
def MA:IntKind.u8.signed=false:=rfl
def Iy:IntKind.u16.signed=false:=rfl
def Iz:IntKind.u32.signed=false:=rfl
def IA:IntKind.u64.signed=false:=rfl
def IB:IntKind.i64.signed=true:=rfl
def X_:IntKind.u8.max=255:=rfl
def TP:IntKind.u32.max=4294967295:=rfl
def TQ:IntKind.u64.max=18446744073709551615:=rfl
attribute [go_sem] MA Iy Iz IA IB X_ TP TQ
def wrap_u64(n:Int):IntKind.u64.wrap n=n % 18446744073709551616:=by simp[IntKind.wrap,IntKind.bits,IntKind.signed]
def nh{k:IntKind}{a b:Int}(h:a=b):Ending.returned (.int k a)=b5 (.int k b):=by rw[h]
def ky{a b:Bool}(h:a=b):Ending.returned (aY a)=b5 (aY b):=by rw[h]
def a1S(p:Prop):Prop:=p
def stay(h:a1S p):p:=h
def dN(h:p):a1S p:=h
def lg(l:aT):List E:=l.map λx => .int .u8 x.toNat
@[simp] theorem u8s_length(l:aT):(lg l).length=l.length:=by simp[lg]
theorem Dj(h:(lg l)[k]?=some u):∃K:k<l.length,u=.int .u8 (l[k].toNat:Int):=by
 unfold lg at h;rw[List.getElem?_map] at h;have K:k<l.length:=by
  rcases cR k l.length with I|I
  ·exact I
  ·rw[List.getElem?_eq_none I] at h;cases h
 refine⟨K,?_⟩;rw[List.getElem?_eq_getElem K] at h;simpa using h.symm
def jh(a b:aT):lg (a++b)=lg a++lg b:=by simp[lg]
def mg:∀u∈lg l,u.oneCell'=true:=by intro u hu;unfold lg at hu;obtain⟨x,_,rfl⟩:=List.mem_map.1 hu;rfl
def Bytes(w:G)(B:Nat)(A:aU)(n:Nat)(l:aT):Prop:=Reads w B 1 A n (lg l)
def Bytes.len(h:Bytes w B A n l):l.length=n:=by have:=h.1;simpa using this
theorem Bytes.at_{w:G}{B n k:Nat}{A:aU}{l:aT}(h:Bytes w B A n l)(K:k<n):∃(ad:dG)(hl:k<l.length),A=some ad∧w.cell? (ad.add k)=some (.int .u8 (l[k].toNat:Int)):=by obtain⟨ad,u,e,_,X,hc⟩:=Reads.at_ h K;obtain⟨hl,rfl⟩:=Dj X;exact⟨ad,hl,e,hc⟩
end Go.Hop
namespace Go.Hop
open Go.RowKit
structure Elem(P:dI)(t e:dH)(size bytes:Nat)(z:E):Prop where
 und:P.underlying t=some (.slice e)
 info:∃i,P.info? e=some i∧i.zero=some z∧i.size=size∧i.bytes=bytes
 zs:z.cells.size=size
 pos:0<size
 bpos:0<bytes
section
variable{size:Nat}
def sY(aep:Elem P t e size bytes z)(w:G)(base ty:Nat)(v:E)(n:Nat)(xs:List E)(iC:w.ownsRow base e size v n xs)(c:Nat):(cA #[t,t] ty #[v,Y none 0 c]).run P w=.ok v w:=by
 obtain⟨i,hi,_,hs,_⟩:=aep.info;rcases iC.2 with ⟨rfl,rfl⟩|⟨g,cap,cur,rfl,_,_,jf,_⟩
 ·simp[cA,run_underlying aep.und,sizeOf,typeInfo,hi,Builtin.lenOf,Builtin.firstCells]
 ·simp[cA,run_underlying aep.und,sizeOf,typeInfo,hi,Builtin.lenOf,Builtin.firstCells,jf,storeCells]
def oZ(aep:Elem P t e size bytes z)(w:G)(base ty:Nat)(v:E)(n:Nat)(xs:List E)(iC:w.ownsRow base e size v n xs)
 (B:Nat) (A:aU) (m c:Nat) (news:List E) (hr:Reads w B size A m news) (I:∀u∈news,u.oneCell'=true)
 (fC:(n+m)*bytes<=140737488355328) (XG:base<=(w:Nat)):∃v' O,(cA #[t,t] ty #[v,Y A m c]).run P w=.ok v' O∧O.ownsRow base e size v' (n+m) (xs++news)∧w.grownBy O v.ownBlock∧
   (v'.ownBlock=v.ownBlock∨v'.ownBlock=some (w:Nat)):=by
 have OU:n+m<=dL:=by have:=Nat.le_mul_of_pos_right (n+m) aep.bpos;simp only[dL];omega
 obtain⟨i,hi,hz,hs,hb⟩:=aep.info
 by_cases hm:m=0
 ·subst hm
  obtain rfl:news=[]:=bv (by simpa using hr.1)
  cases A with
  | none=>exact⟨v,w,sY aep w base ty v n xs iC c,by simpa using iC,World.grownBy.refl w _,.inl rfl⟩
  | some ad=>
    obtain⟨v',O,eM,Z,T,_,h5⟩:=run_append_own_at (P:=P) w base t ty e i z size bytes aep.und hi hz hs hb aep.zs aep.pos v n xs iC ad 0 c [] (by simp) (by simp) I OU fC XG
    exact⟨v',O,eM,Z,T,h5⟩
 ·obtain⟨ad,rfl,_,hc⟩:=hr.2 ap
  obtain⟨v',O,eM,Z,T,_,h5⟩:=run_append_own_at (P:=P) w base t ty e i z size bytes aep.und hi hz hs hb aep.zs aep.pos v n xs iC ad m c news hr.1 hc I OU fC XG
  exact⟨v',O,eM,Z,T,h5⟩
end
def fO(w:G)(cs:aP)(e:dH)(mk:Nat×Nat){size:Nat}(h:cs.size=n*size)(g:Nat)(H:(w:Nat)=g):Reads (w.alloc (.cells cs e mk)) (g+1) size (some (g,0)) n cs.toList:=by
 subst H;refine⟨by simpa using h,λ_=>⟨_,rfl,by simp,λj u hu=>?_⟩⟩;have hh:(w.alloc (.cells cs e mk)).heap[(w:Nat)]?=some (.cells cs e mk):=heap_alloc_new w _;have qG:(⟨(w:Nat),0,none⟩:dG).add j=⟨(w:Nat),j,none⟩:=by unfold Addr.add;split<;>simp_all
 rw[qG,cell_of_row _ _ _ _ _ _ hh];simpa using hu
def eV{a b c:G}(h:Below B a b)(k:Below (b:Nat) b c)(hB:B<=(b:Nat)):Below B a c:=h.trans (k.mono hB)
def dX(l:aT)(u:E)(w:G):Prop:=∃A n c,u=Y A n c∧Bytes w (w:Nat) A n l∧n<=c∧c<=dL
theorem dX.below{l:aT}{u:E}{w O:G}(h:dX l u w)(hb:Below (w:Nat) w O):dX l u O:=by obtain⟨A,n,c,e,I,Z,T⟩:=h;exact⟨A,n,c,e,(Reads.below I hb).more hb.size,Z,T⟩
def eL(w:G)(g:Nat)(t:dH)(cs:aP):Prop:=w.heap[g]?=some (.cells cs t (0,0))
section
def eL.lt(h:eL w g t cs):g<(w:Nat):=(Array.getElem?_eq_some_iff.1 h).1
theorem eL.cell(h:eL w g t cs)(i:Nat):w.cell? ⟨g,i,none⟩=cs[i]?:=cell_of_row w g i cs t (0,0) h
theorem eL.frozen(h:eL w g t cs)(i:Nat):w.frozen? ⟨g,i,none⟩=false:=by unfold eL at h;simp[World.frozen?,h]
def eL.made(w:G)(t:dH)(cs:aP):eL (w.alloc (.cells cs t)) (w:Nat) t cs:=heap_alloc_new w _
theorem eL.alloc(h:eL w g t cs)(o:Obj):eL (w.alloc o) g t cs:=(Below.heap_alloc w o g h.lt).trans h
def eL.put(h:eL w g t cs)(i:Nat)(u:E):eL (w.setCell ⟨g,i,none⟩ u) g t (cs.setIfInBounds i u):=by unfold eL at h ⊢;simp[World.setCell,Array.getElem?_modify,h]
def eL.far(h:eL w g t cs){p:dG}(hp:g≠p.block)(u:E):eL (w.setCell p u) g t cs:=(Below.heap_setCell w p u g hp).trans h
def eL.below{B:Nat}(h:eL w g t cs)(hb:Below B w O)(H:g<B):eL O g t cs:=(hb.block g H).trans h
def eL.grow(h:eL w g t cs)(hb:Below (w:Nat) w O):eL O g t cs:=h.below hb h.lt
end
def fX(g:Nat)(w O:G):Prop:=w.grownBy O (some g)
section
variable{a b c:G}
theorem fX.refl(g:Nat)(w:G):fX g w w:=World.grownBy.refl w _
theorem fX.trans(h:fX g a b)(k:fX g b c):fX g a c:=⟨k.os.trans h.os,k.tape.trans h.tape,k.output.trans h.output,bA h.size k.size,λi hi kr=>(k.block i (bu hi h.size) kr).trans (h.block i hi kr)⟩
def fX.dR(h:Below (a:Nat) a b):fX g a b:=⟨h.os,h.tape,h.output,h.size,λi hi _=>h.block i hi⟩
def fX.put(h:fX g a b)(i:Nat)(u:E):fX g a (b.setCell ⟨g,i,none⟩ u):=h.trans ⟨rfl,rfl,rfl,by simp[World.setCell],λk _ kr=>Below.heap_setCell b ⟨g,i,none⟩ u k (λe=>kr (by rw[e]))⟩
def fX.below{B:Nat}(h:fX g a b)(hB:B<=g)(hs:B<=(a:Nat)):Below B a b:=⟨h.os,h.tape,h.output,h.size,λk K=>h.block k ap (λe=>by injection e;omega)⟩
end
end Go.Hop
end
section
namespace Go.Hop
open Go.RowKit
def Grow(w O:G):Prop:=Below (w:Nat) w O
theorem Grow.refl(w:G):Grow w w:=Below.refl _ _
theorem Grow.trans{a b c:G}(h:Grow a b)(k:Grow b c):Grow a c:=Below.trans h (k.mono h.size)
theorem Grow.drew{w O:G}(h:Grow w O):Grow w O.drew:=Below.drew h
structure Ba where
 rel:G->G->Prop
 refl:∀w,rel w w
def Ba.grow:Ba:=⟨Grow,Grow.refl⟩
def Ba.still:Ba:=⟨λw O=>w=O,λ_=>rfl⟩
def eJ(P:dI)(R:E->G->Prop):Result Next->Prop
 | .ok (.value u) O=>R u O
 | .ok .skip O=>R undef O
 | .ok (.enter f args) O=>dF P f args O (λe w''=>∃u,e=.returned u∧R u w'')
 | _=>False
abbrev Fact:=Nat->E->G->Prop
abbrev Kind:=Option (E ⊕ Fact)
structure fx where
 aeo:G->G->Prop
 aeq:Nat->G->G->Prop
 aej:Nat->G->Prop
 muts:List Nat
 stage:Nat->Option Nat
 q:Ba:=Ba.grow
def iu(j:Nat):List Nat->Nat->Option Nat
 | [],_=>none
 | x::l,t=>if x=j then some t else iu j l (t+1)
theorem yn{j:Nat}:∀{l:aQ}{t k:Nat},iu j l t=some k->t<=k∧l[k-t]?=some j
 | [],_,_,h=>by cases h
 | x::l,t,k,h=>by
   unfold iu at h;split at h
   ·rename_i X
    injection h with h;subst h;subst X;simp
   ·obtain⟨I,Z⟩:=yn h
    refine⟨by omega,?_⟩;rw[show k-t=(k-(t+1))+1 by omega,List.getElem?_cons_succ];exact Z
theorem yo{j:Nat}:∀{l:aQ}{t:Nat},iu j l t=none->j ∉ l
 | [],_,_=>by simp
 | x::l,t,h=>by
   unfold iu at h;split at h;·cases h
   ·rename_i X
    simp only[b_,not_or];exact⟨λe=>X e.symm,yo h⟩
def fx.before(S:fx)(j k:Nat)(w:G):Prop:=S.aej k w∧∀k',S.stage j=some k'->k=k'
def fx.behind(S:fx)(j k:Nat)(w O:G):Prop:=match iu j S.muts 0 with
 | none=>S.q.rel w O
 | some _=>S.aeq k w O∧S.aej (k+1) O
def fx.next(S:fx)(j k:Nat):Nat:=match iu j S.muts 0 with
 | none=>k
 | some _=>k+1
section
variable(P:dI)(ops:Array dJ)(A:Nat->List Nat)(aer:Nat->Kind)(S:fx)(w0:G)(k0 m:Nat)
def jc(i:Nat):Option Tmp:=(ops[i]?).bind (·.dst)
def fR(dM:aQ)(k:Nat):List (Nat×E×Fact)->G->Prop
 | [],_=>True
 | (i,v,φ)::F,w=>if dM.contains i then φ k v w∧fR dM k F w else fR dM k F w
def qN(k:Nat):List (Nat×E×Fact)->G->Prop
 | [],_=>True
 | (_,v,φ)::F,w=>φ k v w∧qN k F w
def ii(tail:dK->G->Prop):List dJ->Nat->dK->List (Nat×E×Fact)->Prop
 | [],_,a,F=>∀w,S.aeo w0 w->S.aej S.muts.length w->qN S.muts.length F w->tail a w
 | o::l,j,a,F=>
   if bz o (yielded ops a.tmps)=true then
    match aer j with
    | none=>∃v0,(∀k w,S.aeo w0 w->S.before j k w->fR (A j) k F w->∃O,(execOp a.eval o).run P w=.ok (.value v0) O∧S.behind j k w O)∧ii tail l (j+1) (a.put o.dst v0) F
    | some (.inl c)=>(∀k w,S.aeo w0 w->S.before j k w->fR (A j) k F w->eJ P (λu O=>u=c∧S.behind j k w O) ((execOp a.eval o).run P w))∧ii tail l (j+1) (a.put o.dst c) F
    | some (.inr φ)=>(∀k w,S.aeo w0 w->S.before j k w->fR (A j) k F w->eJ P (λu O=>S.behind j k w O∧φ (S.next j k) u O) ((execOp a.eval o).run P w))∧∀v,ii tail l (j+1) (a.put o.dst v) ((j,v,φ)::F)
   else iu j S.muts 0=none∧ii tail l (j+1) (a.put o.dst undef) F
def laid(a0:dK)(D:Nat->E)(U:aO)(l:aQ):dK:=l.foldl (λa i=>if U i then a.put (jc ops i) (D i) else a) a0
def eX(a0:dK)(D:Nat->E)(j:Nat):dK:=laid ops a0 D (λi=>decide (k0<=i)) (bF j)
def wantedAt(a0:dK)(D:Nat->E)(i:Nat):Prop:=∃o,ops[i]?=some o∧bz o (yielded ops (eX ops k0 a0 D i).tmps)=true
def kG(a0:dK)(D:Nat->E)(dM:aQ)(k:Nat)(w:G):Prop:=∀i φ,i∈dM->aer i=some (.inr φ)->wantedAt ops k0 a0 D i->φ k (D i) w
def ahead(j:Nat):List Nat:=(A j).filter λi=>decide (k0<=i)&&decide (i<j)
structure Wz(a0:dK)(V D:Nat->E):Prop where
 skip:∀j o,k0<=j->j<m->ops[j]?=some o->bz o (yielded ops (eX ops k0 a0 D j).tmps)=false->D j=undef∧iu j S.muts 0=none
 det:∀j o,k0<=j->j<m->ops[j]?=some o->bz o (yielded ops (eX ops k0 a0 D j).tmps)=true->aer j=none->
  ∀k w,S.aeo w0 w->S.before j k w->kG ops aer k0 a0 D (ahead A k0 j) k w->∃O,(execOp (eX ops k0 a0 D j).eval o).run P w=.ok (.value (D j)) O∧S.behind j k w O
 val:∀j o c,k0<=j->j<m->ops[j]?=some o->bz o (yielded ops (eX ops k0 a0 D j).tmps)=true->aer j=some (.inl c)->
  D j=c∧∀k w,S.aeo w0 w->S.before j k w->kG ops aer k0 a0 D (ahead A k0 j) k w->eJ P (λu O=>u=c∧S.behind j k w O) ((execOp (eX ops k0 a0 D j).eval o).run P w)
 any:∀j o φ,k0<=j->j<m->ops[j]?=some o->bz o (yielded ops (eX ops k0 a0 D j).tmps)=true->aer j=some (.inr φ)->
  D j=V j∧∀k w,S.aeo w0 w->S.before j k w->kG ops aer k0 a0 D (ahead A k0 j) k w->eJ P (λu O=>S.behind j k w O∧φ (S.next j k) u O) ((execOp (eX ops k0 a0 D j).eval o).run P w)
end
def kT(ops:Array dJ)(a0:dK)(D:Nat->E)(U:aO)(l l':aQ):laid ops a0 D U (l++l')=laid ops (laid ops a0 D U l) D U l':=by simp[laid]
def Dk(ops:Array dJ)(a0:dK)(D:Nat->E)(j:Nat)(hj:k0<=j):eX ops k0 a0 D (j+1)=(eX ops k0 a0 D j).put (jc ops j) (D j):=by unfold eX;rw[List.range_succ,kT];simp[laid,hj]
theorem yp(ops:Array dJ)(D D':Nat->E)(U:aO):∀(l:aQ)(a0:dK),(∀i∈l,U i=true->D i=D' i)->laid ops a0 D U l=laid ops a0 D' U l
 | [],_,_=>rfl
 | i::l,a0,h=>by
   have ih:=yp ops D D' U l;show laid ops (if U i then a0.put (jc ops i) (D i) else a0) D U l=laid ops (if U i then a0.put (jc ops i) (D' i) else a0) D' U l;by_cases hs:U i=true;·rw[aA hs,aA hs,h i (by simp) hs];exact ih _ (λk K=>h k (by simp[K]))
   ·rw[aB hs,aB hs];exact ih _ (λk K=>h k (by simp[K]))
def sJ(a:dK)(d:Option Tmp)(v:E):(a.put d v).tmps.size=a.tmps.size:=by cases d<;>simp[Act.put]
theorem qO{d:Option Tmp}{t:Tmp}(h:d≠some t):(a.put d v).tmps[t]?=a.tmps[t]?:=by
 cases d with
 | none=>rfl
 | some d=>simp[Act.put,Array.getElem?_setIfInBounds_ne (show d≠t from λe=>h (by rw[e]))]
def F0{b:dK}{t:Tmp}(h:a.tmps.size=b.tmps.size):(a.put (some t) v).tmps[t]?=(b.put (some t) v).tmps[t]?:=by simp[Act.put,Array.getElem?_setIfInBounds,h]
theorem BQ(ops:Array dJ)(D:Nat->E)(U U':aO)(t:Tmp):∀(l:aQ)(a b:dK),a.tmps.size=b.tmps.size->a.tmps[t]?=b.tmps[t]?->
 (∀i∈l,jc ops i=some t->U i=U' i)->(laid ops a D U l).tmps[t]?=(laid ops b D U' l).tmps[t]?∧(laid ops a D U l).tmps.size=(laid ops b D U' l).tmps.size
 | [],a,b,hs,h,_=>⟨h,hs⟩
 | i::l,a,b,hs,h,hw=>by
   have ih:=BQ ops D U U' t l;show (laid ops (if U i then a.put (jc ops i) (D i) else a) D U l).tmps[t]?=(laid ops (if U' i then b.put (jc ops i) (D i) else b) D U' l).tmps[t]?∧
    (laid ops (if U i then a.put (jc ops i) (D i) else a) D U l).tmps.size=(laid ops (if U' i then b.put (jc ops i) (D i) else b) D U' l).tmps.size
   refine ih _ _ ?_ ?_ (λk K=>hw k (by simp[K]));·split<;>split<;>simp[sJ,hs]
   ·by_cases hd:jc ops i=some t
    ·have:=hw i (by simp) hd
     rw[this];by_cases sS:U' i=true;·rw[aA sS,aA sS,hd];exact F0 hs
     ·rw[aB sS,aB sS];exact h
    ·have e1:(if U i then a.put (jc ops i) (D i) else a).tmps[t]?=a.tmps[t]?:=by split;exact qO hd;rfl
     have e2:(if U' i then b.put (jc ops i) (D i) else b).tmps[t]?=b.tmps[t]?:=by split;exact qO hd;rfl
     rw[e1,e2,h]
theorem F1(ops:Array dJ)(D:Nat->E)(U:aO)(d:Option Tmp)(v:E):∀(l:aQ)(a:dK),(∀i∈l,U i=true->∀t,d=some t->jc ops i≠some t)->
 laid ops (a.put d v) D U l=(laid ops a D U l).put d v
 | [],_,_=>rfl
 | i::l,a,h=>by
   have ih:=F1 ops D U d v l;show laid ops (if U i then (a.put d v).put (jc ops i) (D i) else a.put d v) D U l=(laid ops (if U i then a.put (jc ops i) (D i) else a) D U l).put d v;by_cases hs:U i=true
   ·rw[aA hs,aA hs,Act.put_comm a v (D i) (λt ht=>h i (by simp) hs t ht)]
    exact ih _ (λk K=>h k (by simp[K]))
   ·rw[aB hs,aB hs];exact ih _ (λk K=>h k (by simp[K]))
def qP(ops:Array dJ)(A:Nat->List Nat):Bool:=
 cY ops &&
 (bF ops.size).all λj=>match ops[j]? with
  | none=>true
  | some o=>
    ((A j).all λi=>o.after.toList.any λe=>Region.binds .any e&&(e.on == i||(A e.on).contains i)) &&
    (o.after.toList.all λe => !Region.binds .any e||decide (e.on<j)) &&
    ((bF ops.size).all λi=>i == j||match jc ops i with
      | none=>true
      | some t=>if (o.looksAt ops).contains t||o.dst == some t then (if i<j then (A j).contains i else (A i).contains j) else true)
structure mM(ops:Array dJ)(A:Nat->List Nat):Prop where
 sel:cY ops=true
 near:∀j o i,ops[j]?=some o->i∈A j->∃e∈o.after,Region.binds .any e=true∧(e.on=i∨i∈A e.on)
 back:∀j o e,ops[j]?=some o->e∈o.after->Region.binds .any e=true->e.on<j
 clash:∀j o i t,ops[j]?=some o->i≠j->jc ops i=some t->(t∈o.looksAt ops∨o.dst=some t)->(i<j->i∈A j)∧(j<i->j∈A i)
def P5{t:Tmp}(h:jc ops i=some t):i<ops.size:=by
 rcases cR i ops.size with I|I
 ·exact I
 ·unfold jc at h;rw[Array.getElem?_eq_none I] at h;cases h
def wI{A:Nat->List Nat}(h:qP ops A=true):mM ops A:=by
 unfold qP at h;simp only[bP,List.all_eq_true,List.mem_range] at h;obtain⟨hs,h⟩:=h;have hj:∀j o,ops[j]?=some o->_:=λj o ho=>by have I:=h j (Array.getElem?_eq_some_iff.1 ho).1;rw[ho] at I;simp only[bP,List.all_eq_true,List.any_eq_true,Bool.or_eq_true,Bool.not_eq_true',decide_eq_true_eq,beq_iff_eq,cV,List.mem_range] at I;exact I
 refine⟨hs,λj o i ho hi=>?_,λj o e ho he hb=>?_,λj o i t ho kr hd ht=>?_⟩
 ·obtain⟨e,he,hb⟩:=(hj j o ho).1.1 i hi
  exact⟨e,by simpa using he,hb⟩
 ·rcases (hj j o ho).1.2 e (by simpa using he) with I|I
  ·rw[hb] at I;cases I
  ·exact I
 ·have I:=(hj j o ho).2 i (P5 hd)
  rcases I with I|I
  ·exact absurd I kr
  ·rw[hd] at I
   simp only at I;rw[aA (by simpa [cV] using ht)] at I;refine⟨λfM=>?_,λfM=>?_⟩;·rw[aA fM] at I;simpa [cV] using I
   ·rw[aB ap] at I;simpa [cV] using I
def tU(n:Nat)(A:Nat->List Nat)(k0 m:Nat):Bool:=decide (k0<=m)&&decide (m<=n)&&(bF n).all λj=>decide (j<m)||(bF m).all λi=>decide (i<k0)||(A j).contains i
structure KP(n:Nat)(A:Nat->List Nat)(k0 m:Nat):Prop where
 le:k0<=m
 le':m<=n
 wait:∀j i,j<n->m<=j->k0<=i->i<m->i∈A j
def yq{A:Nat->List Nat}(h:tU n A k0 m=true):KP n A k0 m:=by
 unfold tU at h;simp only[bP,List.all_eq_true,List.mem_range,decide_eq_true_eq,Bool.or_eq_true,cV] at h;refine⟨h.1.1,h.1.2,λj i hj hm K hi=>?_⟩;rcases h.2 j hj with I|I
 ·omega
 ·rcases I i hi with Z|Z
  ·omega
  ·exact Z
def nJ(A:Nat->List Nat)(k0 m:Nat)(muts:aQ)(stage:Nat->Option Nat):Bool:=
 ((bF muts.length).all λt=>decide (k0<=muts.getD t 0)&&decide (muts.getD t 0<m)&&stage (muts.getD t 0) == some t&&(bF t).all λs=>(A (muts.getD t 0)).contains (muts.getD s 0)) &&
 (bF m).all λj=>decide (j<k0)||match stage j with
  | none=>true
  | some k=>decide (k<=muts.length)&&(bF muts.length).all λt=>if t<k then (A j).contains (muts.getD t 0) else muts.getD t 0 == j||(A (muts.getD t 0)).contains j
structure F2(A:Nat->List Nat)(k0 m:Nat)(muts:List Nat)(stage:Nat->Option Nat):Prop where
 own:∀(t i:Nat),muts[t]?=some i->k0<=i∧i<m∧stage i=some t∧∀(s i':Nat),s<t->muts[s]?=some i'->i'∈A i
 low:∀(j k:Nat),k0<=j->j<m->stage j=some k->k<=muts.length∧(∀(t i:Nat),t<k->muts[t]?=some i->i∈A j)∧∀(t i:Nat),k<=t->muts[t]?=some i->i=j∨j∈A i
def oa{t:Nat}(h:muts[t]?=some i):muts.getD t 0=i∧t<muts.length:=by obtain⟨I,Z⟩:=List.getElem?_eq_some_iff.1 h;exact⟨by simp[List.getD,h],I⟩
def sK{A:Nat->List Nat}{stage:Nat->Option Nat}(h:nJ A k0 m muts stage=true):F2 A k0 m muts stage:=by
 unfold nJ at h;simp only[bP,List.all_eq_true,List.mem_range,decide_eq_true_eq,Bool.or_eq_true,cV,beq_iff_eq] at h;refine⟨λt i ht=>?_,λj k K hj hs=>?_⟩
 ·obtain⟨e,fM⟩:=oa ht
  obtain⟨⟨⟨I,Z⟩,T⟩,h4⟩:=h.1 t fM;rw[e] at I Z T h4;refine⟨I,Z,T,λs i' kc hs=>?_⟩;have:=h4 s kc;rwa [(oa hs).1] at this
 ·rcases h.2 j hj with I|I
  ·omega
  ·rw[hs] at I
   simp only[bP,List.all_eq_true,List.mem_range,decide_eq_true_eq] at I;refine⟨I.1,λt i ht BH=>?_,λt i ht BH=>?_⟩
   ·have:=I.2 t (oa BH).2
    rw[aA ht,(oa BH).1] at this;simpa [cV] using this
   ·have:=I.2 t (oa BH).2
    rw[aB ap,(oa BH).1] at this;simpa [cV] using this
section
variable{A:Nat->List Nat}
theorem mM.lt(hA:mM ops A):∀j,j<ops.size->∀i,i∈A j->i<j:=by
 intro j;induction j using Nat.strongRecOn with
 | _ j ih=>
   intro hj i hi;obtain⟨e,he,hb,h⟩:=hA.near j _ i (Array.getElem?_eq_getElem hj) hi;have fM:=hA.back j _ e (Array.getElem?_eq_getElem hj) he hb;rcases h with h|h
   ·omega
   ·have:=ih e.on fM ap i h;omega
def getD_eq(h:i<listed.size)(b c:Bool):listed.getD i b=listed.getD i c:=by simp[h]
theorem ready_nil(hA:mM ops A)(hs:listed.size=ops.size)(h:cz .any ops listed=[]):∀i,i<ops.size->listed.getD i false=true:=by
 intro i;induction i using Nat.strongRecOn with
 | _ i ih=>
   intro hi;cases hl:listed.getD i false with
   | true=>rfl
   | false=>
     have hm:i∈cz .any ops listed:=by rw[mem_ready];refine⟨by rw[getD_eq ap true false];exact hl,_,Array.getElem?_eq_getElem hi,λe he hb=>?_⟩;have fM:=hA.back i _ e (Array.getElem?_eq_getElem hi) he hb;exact ih e.on fM ap
     rw[h] at hm;cases hm
def BR(hA:mM ops A)(F3:∀j i,listed.getD j false=true->i∈A j->listed.getD i false=true)(ho:ops[j]?=some o)
 (AK:∀e∈o.after,Region.binds .any e=true->listed.getD e.on false=true):∀i∈A j,listed.getD i false=true:=λi hi=>by
 obtain⟨e,he,hb,h⟩:=hA.near j o i ho hi;have XH:=AK e he hb;rcases h with h|h
 ·rw[<-h];exact XH
 ·exact F3 e.on i XH h
def iy(n k:Nat):Array Bool:=(Array.range n).map λi=>decide (i<k)
def mm(n k:Nat):(iy n k).size=n:=by simp[iy]
def gO(h:i<n)(b:Bool):(iy n k).getD i b=decide (i<k):=by simp[iy,h]
def sZ(h:n<=i)(b:Bool):(iy n k).getD i b=b:=by simp[iy,h]
def BS(hs:listed.size=n)(h:∀i,i<n->listed.getD i false=decide (i<k)):listed=iy n k:=by
 apply Array.ext;·rw[hs,mm]
 ·intro i I Z
  have e:=h i ap;have e':=gO (n:=n) (k:=k) (i:=i) ap false;simp only[Array.getD_eq_getD_getElem?,Array.getElem?_eq_getElem I,Option.getD_some] at e;simp only[Array.getD_eq_getD_getElem?,Array.getElem?_eq_getElem Z,Option.getD_some] at e';rw[e,e']
def tV(P:dI)(ops:Array dJ)(aes:Exit->dK->G->Prop)(k:Nat)(a:dK)(w:G):Prop:=wpAny P .any ops aes (ops.size-k) (iy ops.size k) a w
def BU(hA:mM ops A):∀j i,(iy ops.size k).getD j false=true->i∈A j->(iy ops.size k).getD i false=true:=by
 intro j i hj hi;rcases cR j ops.size with h|h
 ·rw[gO h] at hj
  have fM:=hA.lt j h i hi;rw[gO ap];have:j<k:=by simpa using hj
  simp;omega
 ·rw[sZ h] at hj;cases hj
theorem ob(h:aes .normal a w):tV P ops aes ops.size a w:=by
 unfold tV;rw[Nat.sub_self];refine⟨?_,h⟩;cases hr:cz .any ops (iy ops.size ops.size) with
 | nil=>rfl
 | cons i r=>
   have hi:i∈cz .any ops (iy ops.size ops.size):=by rw[hr];simp
   obtain⟨h0,o,ho,_⟩:=mem_ready.1 hi;have fM:=(Array.getElem?_eq_some_iff.1 ho).1;rw[gO fM] at h0;simp at h0;omega
def TS(hA:mM ops A)(ho:ops[k]?=some o)(mT:KP ops.size A k (k+1))
 (h:wpOp P ops aes k (tV P ops aes (k+1)) a w):tV P ops aes k a w:=by
 have oF:=(Array.getElem?_eq_some_iff.1 ho).1;unfold tV;rw[show ops.size-k=(ops.size-(k+1))+1 by omega];refine⟨λhr=>?_,λi hi=>?_⟩
 ·have:=ready_nil hA (mm _ _) hr k oF
  rw[gO oF] at this;simp at this
 ·obtain⟨h0,o',BI,AK⟩:=mem_ready.1 hi
  have l8:=(Array.getElem?_eq_some_iff.1 BI).1;rw[gO l8] at h0;have hki:k<=i:=by simpa using h0
  have hik:i=k:=by
   rcases cR k i with I|I
   ·have:=BR hA (BU hA) BI AK k (mT.wait i k l8 ap (bh _) ap)
    rw[gO oF] at this;simp at this
   ·omega
  subst hik;have e:(iy ops.size i).setIfInBounds i true=iy ops.size (i+1):=by
   apply BS;·simp[mm]
   ·intro j hj
    by_cases D8:i=j;·subst D8;simp[mm,l8]
    ·rw[getD_set_ne false D8,gO hj]
     simp;omega
  rw[e];exact h
theorem P6(hA:mM ops A):∀(l:List dJ)(k m:Nat)(a:dK)(w:G),l=(ops.toList.take m).drop k->k<=m->m<=ops.size->(∀i,k<=i->i<m->KP ops.size A i (i+1))->
 wpList P ops (Exit.then (tV P ops aes m) aes) l a w->tV P ops aes k a w:=by
 intro l;induction l with
 | nil=>
   intro k m a w hl K hm _ h;have BJ:k=m:=by
    have I:((ops.toList.take m).drop k).length=0:=by rw[<-hl];rfl
    simp at I;omega
   subst BJ;exact h
 | cons o l ih=>
   intro k m a w hl K hm mT h;have BJ:k<m:=by
    rcases cR k m with I|I
    ·exact I
    ·rw[cB (by simp;omega)] at hl;cases hl
   have fp:k<(ops.toList.take m).length:=by simp;omega
   have H_:=bR fp;rw[<-hl] at H_;injection H_ with ho hl';have BI:ops[k]?=some o:=by rw[ho];simp
   refine TS hA BI (mT k (bh _) BJ) ?_;have iD:wpOp P ops (Exit.then (tV P ops aes m) aes) k (wpList P ops (Exit.then (tV P ops aes m) aes) l) a w:=by unfold wpOp;rw[BI];unfold wpList at h;exact h
   have Z:wpOp P ops (Exit.then (tV P ops aes m) aes) k (tV P ops aes (k+1)) a w:=wpOp_mono (λa' O h'=>ih (k+1) m a' O hl' ap hm (λi hi him=>mT i ap him) h') iD;unfold wpOp at Z ⊢;rw[BI] at Z ⊢;simp only at Z ⊢;split
   ·rename_i hw
    rw[aA hw] at Z;refine Z.imp (λT=>?_) (λT=>⟨T.1,?_⟩)
    ·unfold Oper.wp at T ⊢
     generalize (execOp a.eval o).run P w=r at *;cases r with
     | ok n O=>
       cases n<;>simp only[Oper.upon] at T ⊢<;>first
        | exact T
        | exact Calls.mono T (λe w'' he=>by
         cases e with
         | returned u=>exact he
         | panicked c=>exact he
         | outgrown=>obtain⟨a1,w1,h5⟩:=he;exact⟨a1,w1,h5⟩)
     | halt x O=>cases x<;>simp only[Oper.upon] at T ⊢<;>exact T
    ·obtain⟨a1,w1,h5⟩:=T.2;exact⟨a1,w1,h5⟩
   ·rename_i hw
    rw[aB hw] at Z;exact Z
def cnt(U:aO)(l:aQ):Nat:=(l.filter λi => !U i).length
theorem yr{U U':aO}{j:Nat}(h0:U j=false)(I:U' j=true)(h:∀i,i≠j->U' i=U i):∀(l:aQ),l.Nodup->(j∈l->cnt U' l+1=cnt U l)∧(j ∉ l->cnt U' l=cnt U l)
 | [],_=>⟨λhj=>(by cases hj),λ_=>rfl⟩
 | i::l,hn=>by
   have hn':=List.nodup_cons.1 hn;obtain⟨ih1,ih2⟩:=yr h0 I h l hn'.2;unfold cnt at ih1 ih2 ⊢;rw[List.filter_cons,List.filter_cons];by_cases o7:i=j
   ·subst o7
    have:=ih2 hn'.1;refine⟨λ_=>?_,λhj=>absurd (by simp) hj⟩;simp[h0,I];omega
   ·rw[h i o7]
    refine⟨λhj=>?_,λhj=>?_⟩
    ·have:=ih1 (by simpa [Ne.symm o7] using hj)
     cases U i<;>simp<;>omega
    ·have:=ih2 (λhh=>hj (by simp[hh]))
     cases U i<;>simp<;>omega
end
section
variable{A:Nat->List Nat}{aer:Nat->Kind}{S:fx}
theorem rO(D:Nat->E)(U:aO):∀(l:aQ)(a:dK),(∀i∈l,U i=false)->laid ops a D U l=a
 | [],_,_=>rfl
 | i::l,a,h=>by
   show laid ops (if U i then a.put (jc ops i) (D i) else a) D U l=a;rw[aB (by rw[h i (by simp)];exact cj)];exact rO D U l a (λk K=>h k (by simp[K]))
theorem o_(D:Nat->E)(U U':aO):∀(l:aQ)(a:dK),(∀i∈l,U i=U' i)->laid ops a D U l=laid ops a D U' l
 | [],_,_=>rfl
 | i::l,a,h=>by
   show laid ops (if U i then a.put (jc ops i) (D i) else a) D U l=laid ops (if U' i then a.put (jc ops i) (D i) else a) D U' l;rw[h i (by simp)];exact o_ D U U' l _ (λk K=>h k (by simp[K]))
def range_split(h:j<=n):bF n=bF j++(bF (n-j)).map (j+·):=by rw[<-List.range_add];congr 1;omega
def yt(a0:dK)(D:Nat->E)(h:j<=n):eX ops k0 a0 D j=laid ops a0 D (λi=>decide (k0<=i)&&decide (i<j)) (bF n):=by
 rw[range_split h,kT];rw[rO D _ ((bF (n-j)).map (j+·)) _ (λi hi=>by obtain⟨k,_,rfl⟩:=List.mem_map.1 hi;simp)]
 unfold eX;exact o_ D _ _ _ _ (λi hi=>by have:=List.mem_range.1 hi;simp[this])
def since(k0:Nat)(listed:Array Bool)(i:Nat):Bool:=decide (k0<=i)&&listed.getD i false
def IC(hA:mM ops A)(F3:∀j i,listed.getD j false=true->i∈A j->listed.getD i false=true)(ho:ops[j]?=some o)(hj:listed.getD j false=false)(l9:∀i∈A j,listed.getD i false=true)
 (a0:dK) (D:Nat->E) {t:Tmp} (ht:t∈o.looksAt ops):(laid ops a0 D (since k0 listed) (bF ops.size)).tmps[t]?=(eX ops k0 a0 D j).tmps[t]?:=by
 have xf:=(Array.getElem?_eq_some_iff.1 ho).1;rw[yt a0 D (Nat.le_of_lt xf)];refine (BQ ops D _ _ t _ a0 a0 rfl rfl (λi _ hd=>?_)).1;unfold since;congr 1;rcases Nat.lt_trichotomy i j with h|h|h
 ·have:=(hA.clash j o i t ho ap hd (.inl ht)).1 h
  rw[l9 i this];simp[h]
 ·subst h;rw[hj];simp
 ·have I:=(hA.clash j o i t ho ap hd (.inl ht)).2 h
  have Z:listed.getD i false=false:=by
   cases hs:listed.getD i false with
   | false=>rfl
   | true=>rw[F3 i j hs I] at hj;cases hj
  rw[Z];simp;omega
def F4(hA:mM ops A)(F3:∀j i,listed.getD j false=true->i∈A j->listed.getD i false=true)(ho:ops[j]?=some o)(hj:listed.getD j false=false)
 {U':aO} (mc:U' j=true) (hU:∀i,i≠j->U' i=since k0 listed i)
 (a0:dK) (D:Nat->E):laid ops a0 D U' (bF ops.size)=(laid ops a0 D (since k0 listed) (bF ops.size)).put o.dst (D j):=by
 have xf:=(Array.getElem?_eq_some_iff.1 ho).1;have a0t:jc ops j=o.dst:=by simp[jc,ho]
 rw[range_split (j:=j+1) (n:=ops.size) ap,List.range_succ,bp,kT,kT];rw[kT ops a0 D (since k0 listed),kT ops _ D (since k0 listed)];have e1:laid ops a0 D U' (bF j)=laid ops a0 D (since k0 listed) (bF j):=o_ D _ _ _ _ (λi hi=>hU i (by have:=List.mem_range.1 hi;omega));rw[e1];have e2:laid ops (laid ops a0 D (since k0 listed) (bF j)) D U' [j]=(laid ops a0 D (since k0 listed) (bF j)).put o.dst (D j):=by show (if U' j then _ else _)=_;rw[aA mc,a0t]
 have e3:laid ops (laid ops a0 D (since k0 listed) (bF j)) D (since k0 listed) [j]=laid ops a0 D (since k0 listed) (bF j):=by show (if since k0 listed j then _ else _)=_;rw[aB (by unfold since;rw[hj];simp)]
 rw[e2,e3];have OV:∀i∈(bF (ops.size-(j+1))).map (j+1+·),j<i:=λi hi=>by obtain⟨k,_,rfl⟩:=List.mem_map.1 hi;omega
 rw[o_ D U' (since k0 listed) _ _ (λi hi=>hU i (by have:=OV i hi;omega))];refine F1 ops D _ o.dst (D j) _ _ (λi hi hs t ht hd=>?_);have I:=(hA.clash j o i t ho (by have:=OV i hi;omega) hd (.inr ht)).2 (OV i hi);have sS:listed.getD i false=true:=by unfold since at hs;simp only[bP] at hs;exact hs.2
 rw[F3 i j sS I] at hj;cases hj
theorem F5(hA:mM ops A)(ho:ops[j]?=some o){b:dK}(h:∀t∈o.looksAt ops,a.tmps[t]?=b.tmps[t]?):execOp a.eval o=execOp b.eval o:=by
 refine execOp_congr o (Region.noSelect_spec hA.sel j o · · ho) (λx X=>?_);cases x with
 | tmp t=>
   have:=h t (List.mem_append_left _ (List.mem_filterMap.2 ⟨.tmp t,by simpa using X,rfl⟩));simp only[Act.eval,Array.getD_eq_getD_getElem?,this]
 | _=>rfl
theorem F6{b:dK}(h:∀t∈o.looksAt ops,a.tmps[t]?=b.tmps[t]?):bz o (yielded ops a.tmps)=bz o (yielded ops b.tmps):=by
 unfold bz;cases H:o.guard with
 | none=>rfl
 | some gw=>
   obtain⟨g,want⟩:=gw;have hy:yielded ops a.tmps g=yielded ops b.tmps g:=by
    unfold yielded;cases ht:(ops[g]?).bind (·.dst) with
    | none=>rfl
    | some t=>
      have:=h t (List.mem_append_right _ (by simp[H,ht]));simp[this]
   simp only[hy]
end
section
variable{A:Nat->List Nat}{aer:Nat->Kind}{S:fx}
structure a1T(P:dI)(ops:Array dJ)(A:Nat->List Nat)(aer:Nat->Kind)(S:fx)(w0:G)(k0 m:Nat)(a0:dK)(listed:Array Bool)(a:dK)(w:G):Prop where
 size:listed.size=ops.size
 down:∀j i,listed.getD j false=true->i∈A j->listed.getD i false=true
 low:∀i,i<k0->listed.getD i false=true
 flow:∀j,listed.getD j false=true->j<m
 grow:S.aeo w0 w
 stg:∃k,k<=S.muts.length∧(∀(t i:Nat),S.muts[t]?=some i->(listed.getD i false=true↔t<k))∧S.aej k w∧
  ∃Vs:Nat->E,∀V D,(∀i,listed.getD i false=true->V i=Vs i)->Wz P ops A aer S w0 k0 m a0 V D->
  a=laid ops a0 D (since k0 listed) (bF ops.size)∧∀i φ,k0<=i->listed.getD i false=true->aer i=some (.inr φ)->wantedAt ops k0 a0 D i->φ k (D i) w
theorem BV{aet:dK->G->Prop}{r:Result Next}(h:eJ P R r)(hN:∀u O,R u O->aet (a.put o.dst u) O):o.upon P a aet aes r:=by
 cases r with
 | ok n O=>
   cases n with
   | value u=>exact hN u O h
   | skip=>exact hN undef O h
   | enter f args=>exact Calls.mono h (λe w'' ⟨u,he,hr⟩=>by subst he;exact hN u w'' hr)
   | _=>exact h.elim
 | halt x O=>exact h.elim
theorem MB(hA:mM ops A)(mT:KP ops.size A k0 m)(kc:F2 A k0 m S.muts S.stage)(Y0:∀a b c,S.aeo a b->S.aeo b c->S.aeo a c)(i7:∀a b,S.q.rel a b->S.aeo a b)(htu:∀k a b,S.aeq k a b->S.aeo a b)
 (hI:∀k a b,S.aej k a->S.q.rel a b->S.aej k b) (sD:∀j φ,aer j=some (.inr φ)->∀k u w O,φ k u w->(S.q.rel w O->φ k u O)∧(k<S.muts.length->S.aeq k w O->φ (k+1) u O))
 (hV:∀V,∃D,Wz P ops A aer S w0 k0 m a0 V D∧∀w,S.aeo w0 w->S.aej S.muts.length w->(∀i φ,k0<=i->i<m->aer i=some (.inr φ)->wantedAt ops k0 a0 D i->φ S.muts.length (D i) w)->tV P ops aes m (eX ops k0 a0 D m) w):∀(fuel:Nat)(listed:Array Bool)(a:dK)(w:G),a1T P ops A aer S w0 k0 m a0 listed a w->cnt (λi=>listed.getD i false) (bF ops.size)=fuel->wpAny P .any ops aes fuel listed a w:=by
 have I1:∀(fuel:Nat)(listed:Array Bool)(a:dK)(w:G),a1T P ops A aer S w0 k0 m a0 listed a w->(∀i,i<m->listed.getD i false=true)->cnt (λi=>listed.getD i false) (bF ops.size)=fuel->wpAny P .any ops aes fuel listed a w:=by
  intro fuel listed a w hI l9 hf;obtain⟨k,K,hmt,hIk,Vs,KQ⟩:=hI.stg;obtain⟨D,hF,tJ⟩:=hV Vs;obtain⟨ha,gy⟩:=KQ Vs D (λ_ _=>rfl) hF;have hl:∀i,i<ops.size->listed.getD i false=decide (i<m):=λi hi=>by
   by_cases him:i<m;·rw[l9 i him];simp[him]
   ·cases hs:listed.getD i false with
    | false=>simp;omega
    | true=>exact absurd (hI.flow i hs) him
  have qC:a=eX ops k0 a0 D m:=by rw[ha,yt a0 D mT.le'];exact o_ D _ _ _ _ (λi hi=>by unfold since;rw[hl i (List.mem_range.1 hi)])
  have D9:listed=iy ops.size m:=BS hI.size hl;have xN:cnt (λi=>decide (i<m)) (bF ops.size)=ops.size-m:=by
   unfold cnt;rw[range_split mT.le',List.filter_append];have e1:((bF m).filter λi => !decide (i<m))=[]:=by rw[List.filter_eq_nil_iff];intro i hi;simpa using List.mem_range.1 hi
   have e2:(((bF (ops.size-m)).map (m+·)).filter λi => !decide (i<m))=(bF (ops.size-m)).map (m+·):=by rw[de];intro i hi;obtain⟨k,_,rfl⟩:=List.mem_map.1 hi;simp
   rw[e1,e2];simp
  have a4f:fuel=ops.size-m:=by rw[<-hf,<-xN];unfold cnt;congr 1;exact List.filter_congr (λi hi=>by show (!listed.getD i false)=!decide (i<m);rw[hl i (List.mem_range.1 hi)])
  have I2:k=S.muts.length:=by
   rcases cR k S.muts.length with h|h
   ·exfalso
    have H:=List.getElem?_eq_getElem h;have I:=(hmt k _ H).1 (l9 _ (kc.own k _ H).2.1);omega
   ·omega
  subst I2;have:=tJ w hI.grow hIk (λi φ h0 hi K hw=>gy i φ h0 (l9 i hi) K hw);rw[a4f,D9,qC];exact this
 intro fuel;induction fuel with
 | zero=>
   intro listed a w hI hf;refine I1 0 listed a w hI (λi hi=>?_) hf;cases hs:listed.getD i false with
   | true=>rfl
   | false=>
     have lC:i∈(bF ops.size).filter (λi => !listed.getD i false):=List.mem_filter.2 ⟨List.mem_range.2 (bu hi mT.le'),by simp[hs]⟩;have h0:((bF ops.size).filter (λi => !listed.getD i false))=[]:=bv hf;rw[h0] at lC;cases lC
 | succ fuel ih=>
   intro listed a w jt hf;by_cases l9:∀i,i<m->listed.getD i false=true;·exact I1 (fuel+1) listed a w jt l9 hf
   ·obtain⟨kx,hkx⟩:=Classical.not_forall.1 l9
    obtain⟨a1U,Y1⟩:=Classical.not_imp.1 hkx;refine⟨λhr=>absurd (ready_nil hA jt.size hr kx (bu a1U mT.le')) Y1,λj hj=>?_⟩;obtain⟨h0,o,ho,AK⟩:=mem_ready.1 hj;have xf:=(Array.getElem?_eq_some_iff.1 ho).1;have xg:listed.getD j false=false:=by rw[<-getD_eq (by rw[jt.size];omega) true false];exact h0
    have P7:=BR hA jt.down ho AK;have EJ:k0<=j:=by
     rcases cR j k0 with h|h
     ·rw[jt.low j h] at xg;cases xg
     ·exact h
    have KG:j<m:=by
     rcases cR j m with h|h
     ·exact h
     ·have Ir:k0<=kx:=by
       rcases cR kx k0 with h'|h'
       ·exact absurd (jt.low kx h') Y1
       ·exact h'
      exact absurd (P7 kx (mT.wait j kx xf h Ir a1U)) Y1
    obtain⟨k,K,hmt,hIk,Vs,KQ⟩:=jt.stg;have a4g:∀k',S.stage j=some k'->k'=k:=by
     intro k' hs;obtain⟨g1,g2,g3⟩:=kc.low j k' EJ KG hs;rcases Nat.lt_trichotomy k k' with h|h|h
     ·exfalso
      have H:S.muts[k]?=some (S.muts[k]'ap):=List.getElem?_eq_getElem ap;have:=(hmt k _ H).1 (P7 _ (g2 k _ h H));omega
     ·exact h.symm
     ·exfalso
      have H:S.muts[k']?=some (S.muts[k']'ap):=List.getElem?_eq_getElem ap;have I:=(hmt k' _ H).2 h;rcases g3 k' _ (bh _) H with Z|Z
      ·rw[Z] at I;rw[I] at xg;cases xg
      ·rw[jt.down _ j I Z] at xg;cases xg
    have WA:S.before j k w:=⟨hIk,λk' hs=>(a4g k' hs).symm⟩;have Da:∀V D,(∀i,listed.getD i false=true->V i=Vs i)->Wz P ops A aer S w0 k0 m a0 V D->
     execOp a.eval o=execOp (eX ops k0 a0 D j).eval o∧bz o (yielded ops a.tmps)=bz o (yielded ops (eX ops k0 a0 D j).tmps)∧kG ops aer k0 a0 D (ahead A k0 j) k w:=by
     intro V D OL hF;obtain⟨ha,gy⟩:=KQ V D OL hF;have hr:∀t∈o.looksAt ops,a.tmps[t]?=(eX ops k0 a0 D j).tmps[t]?:=λt ht=>by rw[ha];exact IC hA jt.down ho xg P7 a0 D ht
     refine⟨F5 hA ho hr,F6 hr,λi φ hi K hw=>?_⟩;obtain⟨I,Z⟩:=List.mem_filter.1 hi;simp only[bP,decide_eq_true_eq] at Z;exact gy i φ Z.1 (P7 i I) K hw
    have lK:∀(u:E)(O:G),S.behind j k w O->(∀V D,(∀i,listed.getD i false=true->V i=Vs i)->(∀φ,aer j=some (.inr φ)->bz o (yielded ops a.tmps)=true->V j=u)->Wz P ops A aer S w0 k0 m a0 V D->D j=u)->
     (∀φ,aer j=some (.inr φ)->bz o (yielded ops a.tmps)=true->φ (S.next j k) u O)->wpAny P .any ops aes fuel (listed.setIfInBounds j true) (a.put o.dst u) O:=by
     intro u O xn hD hφ;have qH:∀i,(listed.setIfInBounds j true).getD i false=if i=j then true else listed.getD i false:=λi=>by
      by_cases o7:i=j;·subst o7;rw[aA rfl];simp[jt.size,xf]
      ·rw[aB o7,getD_set_ne false (Ne.symm o7)]
     have BJ:∀t,iu j S.muts 0=some t->t=k∧S.muts[t]?=some j:=λt hi=>by
      have htj:S.muts[t]?=some j:=by have:=(yn hi).2;simpa using this
      exact⟨a4g t (kc.own t j htj).2.2.1,htj⟩
     have H:S.aeo w O:=by
      unfold fx.behind at xn;cases hi:iu j S.muts 0 with
      | none=>rw[hi] at xn;exact i7 _ _ xn
      | some t=>rw[hi] at xn;exact htu k _ _ xn.1
     have EX:S.next j k<=S.muts.length∧(∀(t i:Nat),S.muts[t]?=some i->((listed.setIfInBounds j true).getD i false=true↔t<S.next j k))∧S.aej (S.next j k) O∧
      ∀i φ,aer i=some (.inr φ)->∀u,φ k u w->φ (S.next j k) u O:=by
      unfold fx.behind at xn;unfold fx.next;cases hi:iu j S.muts 0 with
      | none=>
        rw[hi] at xn;have WC:=yo hi;refine⟨K,λt i BH=>?_,hI k _ _ hIk xn,λi φ hK u hu=>(sD i φ hK k u w O hu).1 xn⟩;have o7:i≠j:=λe=>WC (by rw[<-e];exact List.mem_of_getElem? BH);rw[qH,aB o7];exact hmt t i BH
      | some t=>
        rw[hi] at xn;obtain⟨hkt,htj⟩:=BJ t hi;subst hkt;have iC:=kc.own t j htj;refine⟨(oa htj).2,λt' i BH=>?_,xn.2,λi φ hK u hu=>(sD i φ hK t u w O hu).2 (oa htj).2 xn.1⟩;rw[qH];show _↔t'<t+1;by_cases o7:i=j
        ·rw[aA o7]
         subst o7;have:some t'=some t:=(kc.own t' i BH).2.2.1.symm.trans iC.2.2.1;have:t'=t:=by injection this
         simp;omega
        ·rw[aB o7,hmt t' i BH]
         have:t'≠t:=λe=>o7 (by rw[e,htj] at BH;injection BH with BH;exact BH.symm);omega
     obtain⟨oX,WE,Tr,hn4⟩:=EX;refine ih _ _ _ ⟨by simpa using jt.size,λk i K hi=>?_,λi hi=>?_,λk K=>?_,Y0 _ _ _ jt.grow H,S.next j k,oX,WE,Tr,λi=>if i=j then u else Vs i,λV D OL hF=>?_⟩ ?_
     ·rw[qH] at K ⊢
      split;·rfl
      ·by_cases u_:k=j
       ·subst u_;exact P7 i hi
       ·rw[aB u_] at K;exact jt.down k i K hi
     ·rw[qH]
      split;·rfl
      ·exact jt.low i hi
     ·rw[qH] at K
      by_cases u_:k=j;·subst u_;exact KG
      ·rw[aB u_] at K;exact jt.flow k K
     ·have hVo:∀i,listed.getD i false=true->V i=Vs i:=λi hi=>by
       have o7:i≠j:=λe=>by subst e;rw[xg] at hi;cases hi
       have:=OL i (by rw[qH,aB o7];exact hi);simp only[aB o7] at this;exact this
      have hVj:V j=u:=by have:=OL j (by rw[qH,aA rfl]);simp only[if_true] at this;exact this
      obtain⟨ha,gy⟩:=KQ V D hVo hF
      have Ts:=hD V D hVo (λ_ _ _=>hVj) hF
      refine⟨?_,λi φ h0 hi K hw=>?_⟩
      ·rw[F4 hA jt.down ho xg (U':=since k0 (listed.setIfInBounds j true)) (by unfold since;rw[qH,aA rfl];simpa using EJ) (λi hi=>by unfold since;rw[qH,aB hi]) a0 D,<-ha,Ts]
      ·rw[qH] at hi
       by_cases o7:i=j
       ·subst o7
        rw[Ts]
        obtain⟨o',BI,hw'⟩:=hw
        rw[ho] at BI;cases BI
        exact hφ φ K (by rw[(Da V D hVo hF).2.1];exact hw')
       ·rw[aB o7] at hi
        exact hn4 i φ K _ (gy i φ h0 hi K hw)
     ·have:=(yr (U:=λi=>listed.getD i false) (U':=λi=>(listed.setIfInBounds j true).getD i false) (j:=j) xg (by show (listed.setIfInBounds j true).getD j false=true;rw[qH,aA rfl])
       (λi hi=>by show (listed.setIfInBounds j true).getD i false=listed.getD i false;rw[qH,aB hi]) (bF ops.size) List.nodup_range).1 (List.mem_range.2 xf)
      omega
    obtain⟨D0,BW,_⟩:=hV Vs;obtain⟨Y2,vk,Y3⟩:=Da Vs D0 (λ_ _=>rfl) BW;unfold wpOp;rw[ho];simp only;cases BK:bz o (yielded ops a.tmps) with
    | false=>
      rw[aB cj];refine lK undef w ?_ (λV D OL _ hF=>?_) (λφ _ h=>by rw[BK] at h;cases h)
      ·unfold fx.behind
       rw[(BW.skip j o EJ KG ho (by rw[<-vk];exact BK)).2];exact S.q.refl w
      ·exact (hF.skip j o EJ KG ho (by rw[<-(Da V D OL hF).2.1];exact BK)).1
    | true=>
      rw[aA rfl];refine .inl ?_;unfold Oper.wp;rw[vk] at BK;cases hK:aer j with
      | none=>
        obtain⟨O,eM,H⟩:=BW.det j o EJ KG ho BK hK k w jt.grow WA Y3;rw[<-Y2] at eM;rw[eM];refine lK (D0 j) O H (λV D OL _ hF=>?_) (λφ h=>by rw[hK] at h;cases h);obtain⟨hex,a4i,OW⟩:=Da V D OL hF;obtain⟨w'',XI,_⟩:=hF.det j o EJ KG ho (by rw[<-a4i,vk];exact BK) hK k w jt.grow WA OW;rw[<-hex,eM] at XI;injection XI with I _;injection I with Z;exact Z.symm
      | some kd=>
        cases kd with
        | inl c=>
          obtain⟨hc,eM⟩:=BW.val j o c EJ KG ho BK hK;have I:=eM k w jt.grow WA Y3;rw[<-Y2] at I;refine BV I (λu O ⟨hu,H⟩=>?_);subst hu;refine lK u O H (λV D OL _ hF=>?_) (λφ h=>by rw[hK] at h;cases h);exact (hF.val j o u EJ KG ho (by rw[<-(Da V D OL hF).2.1,vk];exact BK) hK).1
        | inr φ=>
          obtain⟨_,eM⟩:=BW.any j o φ EJ KG ho BK hK;have I:=eM k w jt.grow WA Y3;rw[<-Y2] at I;refine BV I (λu O ⟨H,hu⟩=>?_);refine lK u O H (λV D OL hVu hF=>?_) (λφ' h _=>by rw[hK] at h;injection h with h;injection h with h;rw[<-h];exact hu);rw[(hF.any j o φ EJ KG ho (by rw[<-(Da V D OL hF).2.1,vk];exact BK) hK).1];exact hVu φ hK (by rw[vk];exact BK)
end
section
variable{A:Nat->List Nat}{aer:Nat->Kind}{S:fx}
def oH(h:∀i,i<j->D i=D' i):eX ops k0 a0 D j=eX ops k0 a0 D' j:=yp ops D D' _ _ _ (λi hi _=>h i (List.mem_range.1 hi))
def nK(h:∀k,k<i->D k=D' k):wantedAt ops k0 a0 D i↔wantedAt ops k0 a0 D' i:=by unfold wantedAt;rw[oH h]
theorem yu{D:Nat->E}{j k:Nat}{w:G}{dM:aQ}(hf:kG ops aer k0 a0 D (dM.filter λi=>decide (k0<=i)&&decide (i<j)) k w):∀(F:List (Nat×E×Fact)),(∀x∈F,(k0<=x.1∧x.1<j)∧aer x.1=some (.inr x.2.2)∧wantedAt ops k0 a0 D x.1∧x.2.1=D x.1)->fR dM k F w
 | [],_=>trivial
 | (i,v,φ)::F,h=>by
   have ih:=yu hf F (λx X=>h x (by simp[X]));obtain⟨I,Z,T,h4⟩:=h (i,v,φ) (by simp);unfold fR;split
   ·rename_i hc
    refine⟨?_,ih⟩;simp only at I Z T h4;rw[h4];exact hf i φ (List.mem_filter.2 ⟨by simpa [cV] using hc,by simpa using I⟩) Z T
   ·exact ih
theorem wJ{D:Nat->E}{k:Nat}{w:G}(hf:∀i φ,k0<=i->i<m->aer i=some (.inr φ)->wantedAt ops k0 a0 D i->φ k (D i) w):∀(F:List (Nat×E×Fact)),(∀x∈F,(k0<=x.1∧x.1<m)∧aer x.1=some (.inr x.2.2)∧wantedAt ops k0 a0 D x.1∧x.2.1=D x.1)->qN k F w
 | [],_=>trivial
 | (i,v,φ)::F,h=>by
   have ih:=wJ hf F (λx X=>h x (by simp[X]));obtain⟨I,Z,T,h4⟩:=h (i,v,φ) (by simp);refine⟨?_,ih⟩;simp only at I Z T h4;rw[h4];exact hf i φ I.1 I.2 Z T
theorem IE(hm:m<=ops.size)(tail:dK->G->Prop)(V:Nat->E):∀(l:List dJ)(j:Nat)(D':Nat->E)(F:List (Nat×E×Fact)),
 l=(ops.toList.take m).drop j->k0<=j->j<=m->(∀x∈F,(k0<=x.1∧x.1<j)∧aer x.1=some (.inr x.2.2)∧wantedAt ops k0 a0 D' x.1∧x.2.1=D' x.1)->
 ii P ops A aer S w0 tail l j (eX ops k0 a0 D' j) F->
 ∃D,(∀i,i<j->D i=D' i)∧
   (∀k o,j<=k->k<m->ops[k]?=some o->bz o (yielded ops (eX ops k0 a0 D k).tmps)=false->D k=undef∧iu k S.muts 0=none)∧
   (∀k o,j<=k->k<m->ops[k]?=some o->bz o (yielded ops (eX ops k0 a0 D k).tmps)=true->aer k=none->
    ∀t w,S.aeo w0 w->S.before k t w->kG ops aer k0 a0 D (ahead A k0 k) t w->∃O,(execOp (eX ops k0 a0 D k).eval o).run P w=.ok (.value (D k)) O∧S.behind k t w O)∧
   (∀k o c,j<=k->k<m->ops[k]?=some o->bz o (yielded ops (eX ops k0 a0 D k).tmps)=true->aer k=some (.inl c)->
    D k=c∧∀t w,S.aeo w0 w->S.before k t w->kG ops aer k0 a0 D (ahead A k0 k) t w->eJ P (λu O=>u=c∧S.behind k t w O) ((execOp (eX ops k0 a0 D k).eval o).run P w))∧
   (∀k o φ,j<=k->k<m->ops[k]?=some o->bz o (yielded ops (eX ops k0 a0 D k).tmps)=true->aer k=some (.inr φ)->
    D k=V k∧∀t w,S.aeo w0 w->S.before k t w->kG ops aer k0 a0 D (ahead A k0 k) t w->eJ P (λu O=>S.behind k t w O∧φ (S.next k t) u O) ((execOp (eX ops k0 a0 D k).eval o).run P w))∧
   (∀w,S.aeo w0 w->S.aej S.muts.length w->(∀i φ,k0<=i->i<m->aer i=some (.inr φ)->wantedAt ops k0 a0 D i->φ S.muts.length (D i) w)->tail (eX ops k0 a0 D m) w):=by
 intro l
 induction l with
 | nil=>
   intro j D' F hl a1V hj hF h
   have KG:j=m:=by
    have I:((ops.toList.take m).drop j).length=0:=by rw[<-hl];rfl
    simp at I;omega
   subst KG
   refine⟨D',λ_ _=>rfl,λk o I Z=>by omega,λk o I Z=>by omega,λk o c I Z=>by omega,λk o φ I Z=>by omega,λw H hi hf=>?_⟩
   exact h w H hi (wJ hf F hF)
 | cons o l ih=>
   intro j D' F hl a1V hj hF h
   have KG:j<m:=by
    rcases cR j m with I|I
    ·exact I
    ·rw[cB (by simp;omega)] at hl;cases hl
   have fp:j<(ops.toList.take m).length:=by simp;omega
   have H_:=bR fp
   rw[<-hl] at H_
   injection H_ with ho hl'
   have BI:ops[j]?=some o:=by rw[ho];simp
   have a0t:jc ops j=o.dst:=by simp[jc,BI]
   have next:∀(v:E)(F':List (Nat×E×Fact)),(∀x∈F',x∈F∨(x.1=j∧x.2.1=v∧aer j=some (.inr x.2.2)∧bz o (yielded ops (eX ops k0 a0 D' j).tmps)=true))->
    ii P ops A aer S w0 tail l (j+1) ((eX ops k0 a0 D' j).put o.dst v) F'->
    ∃D,(∀i,i<j->D i=D' i)∧D j=v∧
      (∀k o,j+1<=k->k<m->ops[k]?=some o->bz o (yielded ops (eX ops k0 a0 D k).tmps)=false->D k=undef∧iu k S.muts 0=none)∧
      (∀k o,j+1<=k->k<m->ops[k]?=some o->bz o (yielded ops (eX ops k0 a0 D k).tmps)=true->aer k=none->
       ∀t w,S.aeo w0 w->S.before k t w->kG ops aer k0 a0 D (ahead A k0 k) t w->∃O,(execOp (eX ops k0 a0 D k).eval o).run P w=.ok (.value (D k)) O∧S.behind k t w O)∧
      (∀k o c,j+1<=k->k<m->ops[k]?=some o->bz o (yielded ops (eX ops k0 a0 D k).tmps)=true->aer k=some (.inl c)->
       D k=c∧∀t w,S.aeo w0 w->S.before k t w->kG ops aer k0 a0 D (ahead A k0 k) t w->eJ P (λu O=>u=c∧S.behind k t w O) ((execOp (eX ops k0 a0 D k).eval o).run P w))∧
      (∀k o φ,j+1<=k->k<m->ops[k]?=some o->bz o (yielded ops (eX ops k0 a0 D k).tmps)=true->aer k=some (.inr φ)->
       D k=V k∧∀t w,S.aeo w0 w->S.before k t w->kG ops aer k0 a0 D (ahead A k0 k) t w->eJ P (λu O=>S.behind k t w O∧φ (S.next k t) u O) ((execOp (eX ops k0 a0 D k).eval o).run P w))∧
      (∀w,S.aeo w0 w->S.aej S.muts.length w->(∀i φ,k0<=i->i<m->aer i=some (.inr φ)->wantedAt ops k0 a0 D i->φ S.muts.length (D i) w)->tail (eX ops k0 a0 D m) w):=by
    intro v F' hF' h'
    have hc:∀i,i<j->(λi=>if i=j then v else D' i) i=D' i:=λi hi=>aB ap
    have qC:eX ops k0 a0 (λi=>if i=j then v else D' i) (j+1)=(eX ops k0 a0 D' j).put o.dst v:=by rw[Dk _ _ _ _ a1V,a0t,oH hc];simp
    obtain⟨D,hD,r1,r2,r3,r4,r5⟩:=ih (j+1) (λi=>if i=j then v else D' i) F' hl' ap ap (λx X=>by
     rcases hF' x X with I|⟨I,Z,T,h4⟩
     ·obtain⟨g1,g2,g3,g4⟩:=hF x I
      refine⟨⟨g1.1,by omega⟩,g2,(nK (λk K=>hc k ap)).2 g3,?_⟩;rw[g4];exact (hc x.1 g1.2).symm
     ·refine⟨⟨by omega,by omega⟩,by rw[I];exact T,?_,by rw[I];simp[Z]⟩
      rw[I];exact (nK hc).2 ⟨o,BI,h4⟩) (by rw[qC];exact h')
    refine⟨D,λi hi=>(hD i ap).trans (hc i hi),?_,r1,r2,r3,r4,r5⟩
    have:=hD j ap
    simpa using this
   have lift:∀D:Nat->E,(∀i,i<j->D i=D' i)->eX ops k0 a0 D j=eX ops k0 a0 D' j:=λD hD=>oH hD
   have facts:∀D:Nat->E,(∀i,i<j->D i=D' i)->∀t w,kG ops aer k0 a0 D (ahead A k0 j) t w->fR (A j) t F w:=λD hD t w hf=>
    yu hf F (λx X=>by obtain⟨g1,g2,g3,g4⟩:=hF x X;exact⟨g1,g2,(nK (λk K=>hD k ap)).2 g3,g4.trans (hD x.1 g1.2).symm⟩)
   unfold ii at h
   cases BK:bz o (yielded ops (eX ops k0 a0 D' j).tmps) with
   | false=>
     rw[BK,aB cj] at h
     obtain⟨D,hD,Ts,r1,r2,r3,r4,r5⟩:=next undef F (λx X => .inl X) h.2
     refine⟨D,hD,λk o' I Z T h4=>?_,λk o' I Z T h4=>?_,λk o' c I Z T h4=>?_,λk o' φ I Z T h4=>?_,r5⟩<;>by_cases u_:k=j
     ·subst u_;exact⟨Ts,h.1⟩
     ·exact r1 k o' ap Z T h4
     ·subst u_;rw[BI] at T;cases T;rw[lift D hD,BK] at h4;cases h4
     ·exact r2 k o' ap Z T h4
     ·subst u_;rw[BI] at T;cases T;rw[lift D hD,BK] at h4;cases h4
     ·exact r3 k o' c ap Z T h4
     ·subst u_;rw[BI] at T;cases T;rw[lift D hD,BK] at h4;cases h4
     ·exact r4 k o' φ ap Z T h4
   | true=>
     rw[BK,aA rfl] at h
     cases hK:aer j with
     | none=>
       simp only[hK] at h
       obtain⟨v0,eM,h⟩:=h
       obtain⟨D,hD,Ts,r1,r2,r3,r4,r5⟩:=next v0 F (λx X => .inl X) h
       refine⟨D,hD,λk o' I Z T h4=>?_,λk o' I Z T h4=>?_,λk o' c I Z T h4=>?_,λk o' φ I Z T h4=>?_,r5⟩<;>by_cases u_:k=j
       ·subst u_;rw[BI] at T;cases T;rw[lift D hD,BK] at h4;cases h4
       ·exact r1 k o' ap Z T h4
       ·subst u_;rw[BI] at T;cases T
        intro _ t w H hb hf
        rw[lift D hD,Ts]
        exact eM t w H hb (facts D hD t w hf)
       ·exact r2 k o' ap Z T h4
       ·subst u_;intro h5;rw[hK] at h5;cases h5
       ·exact r3 k o' c ap Z T h4
       ·subst u_;intro h5;rw[hK] at h5;cases h5
       ·exact r4 k o' φ ap Z T h4
     | some kd=>
       cases kd with
       | inl c=>
         simp only[hK] at h
         obtain⟨eM,h⟩:=h
         obtain⟨D,hD,Ts,r1,r2,r3,r4,r5⟩:=next c F (λx X => .inl X) h
         refine⟨D,hD,λk o' I Z T h4=>?_,λk o' I Z T h4=>?_,λk o' c' I Z T h4=>?_,λk o' φ I Z T h4=>?_,r5⟩<;>by_cases u_:k=j
         ·subst u_;rw[BI] at T;cases T;rw[lift D hD,BK] at h4;cases h4
         ·exact r1 k o' ap Z T h4
         ·subst u_;intro h5;rw[hK] at h5;cases h5
         ·exact r2 k o' ap Z T h4
         ·subst u_;rw[BI] at T;cases T
          intro h5;rw[hK] at h5;injection h5 with h5;injection h5 with h5;subst h5
          refine⟨Ts,λt w H hb hf=>?_⟩
          rw[lift D hD]
          exact eM t w H hb (facts D hD t w hf)
         ·exact r3 k o' c' ap Z T h4
         ·subst u_;intro h5;rw[hK] at h5;cases h5
         ·exact r4 k o' φ ap Z T h4
       | inr φ0=>
         simp only[hK] at h
         obtain⟨eM,h⟩:=h
         obtain⟨D,hD,Ts,r1,r2,r3,r4,r5⟩:=next (V j) ((j,V j,φ0)::F) (λx X=>by
          rcases List.mem_cons.1 X with I|I
          ·subst I;exact .inr ⟨rfl,rfl,hK,BK⟩
          ·exact .inl I) (h (V j))
         refine⟨D,hD,λk o' I Z T h4=>?_,λk o' I Z T h4=>?_,λk o' c' I Z T h4=>?_,λk o' φ I Z T h4=>?_,r5⟩<;>by_cases u_:k=j
         ·subst u_;rw[BI] at T;cases T;rw[lift D hD,BK] at h4;cases h4
         ·exact r1 k o' ap Z T h4
         ·subst u_;intro h5;rw[hK] at h5;cases h5
         ·exact r2 k o' ap Z T h4
         ·subst u_;intro h5;rw[hK] at h5;cases h5
         ·exact r3 k o' c' ap Z T h4
         ·subst u_;rw[BI] at T;cases T
          intro h5;rw[hK] at h5;injection h5 with h5;injection h5 with h5;subst h5
          refine⟨Ts,λt w H hb hf=>?_⟩
          rw[lift D hD]
          exact eM t w H hb (facts D hD t w hf)
         ·exact r4 k o' φ ap Z T h4
end
def jV(φ:E->G->Prop):Prop:=∀u w O,φ u w->Grow w O->φ u O
def p9(S:fx)(φ:Fact):Prop:=∀k u w O,φ k u w->(S.q.rel w O->φ k u O)∧(k<S.muts.length->S.aeq k w O->φ (k+1) u O)
def quiet:fx:={ aeo:=Grow,aeq:=λ_ _ _=>False,aej:=λ_ _=>True,muts:=[],stage:=λ_=>none }
structure fx.Ok(S:fx):Prop where
 trans:∀a b c,S.aeo a b->S.aeo b c->S.aeo a c
 grow:∀a b,S.q.rel a b->S.aeo a b
 turn:∀k a b,S.aeq k a b->S.aeo a b
 stay:∀k a b,S.aej k a->S.q.rel a b->S.aej k b
def F7:quiet.Ok:=⟨λ_ _ _=>Grow.trans,λ_ _ h=>h,λ_ _ _ h=>h.elim,λ_ _ _ h _=>h⟩
def gB(h:jV φ):p9 quiet (λ_=>φ):=λ_ u w O hu=>⟨h u w O hu,λK=>by simp[quiet] at K⟩
theorem IF:∀(l:List (Nat×(E ⊕ Fact)))(j:Nat)(x:E ⊕ Fact),l.lookup j=some x->(j,x)∈l:=by
 intro l;induction l with
 | nil=>intro j x h;cases h
 | cons y l ih=>
   intro j x h;rw[List.lookup_cons] at h;cases hb:(j == y.1) with
   | true=>
     rw[hb] at h;simp only[Option.some.injEq] at h;have:j=y.1:=by simpa using hb
     rw[<-h,this];simp
   | false=>rw[hb] at h;exact bV _ (ih j x h)
def kz(ops:Array dJ)(j:Nat):List Nat:=(bF j).filter λi=>((Region.before ops).getD j 0).testBit i
def dO{id:Nat}(Y4:P.follows .mixedOrders=true)(h:tV P ops aes 0 a w.drew):(Code.region id ops true).wp P aes a w:=by
 refine wp_region_any Y4 ?_;unfold tV at h;have e:iy ops.size 0=Array.replicate ops.size false:=by
  apply Array.ext;·simp[iy]
  ·intro i I Z;simp[iy]
 rw[e] at h;exact h
def tW(k m:Nat)(hA:qP ops (kz ops)=true)
 (mT:(decide (k<=m)&&decide (m<=ops.size)&&(bF m).all λi=>decide (i<k)||tU ops.size (kz ops) i (i+1))=true)
 (h:wpList P ops (Exit.then (tV P ops aes m) aes) ((ops.toList.take m).drop k) a w):tV P ops aes k a w:=by
 simp only[bP,List.all_eq_true,List.mem_range,decide_eq_true_eq,Bool.or_eq_true] at mT;refine P6 (wI hA) _ k m a w rfl mT.1.1 mT.1.2 (λi I Z=>yq ?_) h;rcases mT.2 i Z with T|T
 ·omega
 ·exact T
def IG(S:fx)(L:S.Ok)(k0 m:Nat)(kinds:List (Nat×(E ⊕ Fact)))
 (hA:qP ops (kz ops)=true) (mT:tU ops.size (kz ops) k0 m=true) (kc:nJ (kz ops) k0 m S.muts S.stage=true) (sD:∀x∈kinds,∀φ,x.2=.inr φ->p9 S φ)
 (H:S.aeo w0 w) (hi:S.aej 0 w)
 (h:ii P ops (kz ops) (λj=>kinds.lookup j) S w0 (tV P ops aes m) ((ops.toList.take m).drop k0) k0 a []):tV P ops aes k0 a w:=by
 have gS:=wI hA;have WG:=yq mT;have hl0:laid ops a (λ_=>undef) (λi=>decide (k0<=i)) (bF k0)=a:=rO _ _ _ _ (λi hi=>by have:=List.mem_range.1 hi;simp;omega);have xN:cnt (λi=>(iy ops.size k0).getD i false) (bF ops.size)=ops.size-k0:=by
  have K:k0<=ops.size:=bA WG.le WG.le';unfold cnt;rw[range_split K,List.filter_append];have e1:((bF k0).filter λi => !(iy ops.size k0).getD i false)=[]:=by rw[List.filter_eq_nil_iff];intro i hi;have:=List.mem_range.1 hi;rw[gO ap];simpa using this
  have e2:(((bF (ops.size-k0)).map (k0+·)).filter λi => !(iy ops.size k0).getD i false)=(bF (ops.size-k0)).map (k0+·):=by rw[de];intro i hi;obtain⟨k,qL,rfl⟩:=List.mem_map.1 hi;have:=List.mem_range.1 qL;rw[gO ap];simp
  rw[e1,e2];simp
 refine MB (A:=kz ops) (aer:=λj=>kinds.lookup j) (S:=S) (w0:=w0) (k0:=k0) (m:=m) (a0:=a) gS WG (sK kc) L.trans L.grow L.turn L.stay
  (λj φ K=>sD (j,.inr φ) (IF kinds j _ K) φ rfl) (λV=>?_) _ _ a w ?_ xN
 ·obtain⟨D,_,r1,r2,r3,r4,r5⟩:=IE (a0:=a) (aer:=λj=>kinds.lookup j) (S:=S) (k0:=k0) WG.le' _ V ((ops.toList.take m).drop k0) k0 (λ_=>undef) [] rfl (bh _) WG.le (by simp) (by
   show ii _ _ _ _ _ _ _ _ _ (laid ops a (λ_=>undef) (λi=>decide (k0<=i)) (bF k0)) _;rw[hl0];exact h)
  exact⟨D,⟨r1,r2,r3,r4⟩,r5⟩
 ·refine⟨mm _ _,BU gS,λi hi=>?_,λj hj=>?_,H,0,bo _,λt i BH=>?_,hi,λ_=>undef,λV D _ _=>⟨?_,λi φ h0 hi=>?_⟩⟩
  ·rw[gO (bu hi (bA WG.le WG.le'))];simpa using hi
  ·rcases cR j ops.size with I|I
   ·rw[gO I] at hj
    have:j<k0:=by simpa using hj
    exact bu this WG.le
   ·rw[sZ I] at hj;cases hj
  ·have:=(sK kc).own t i BH
   rw[gO (bu this.2.1 WG.le')];simp;omega
  ·rw[rO D _ _ _ (λi hi=>by unfold since;rw[gO (List.mem_range.1 hi)];simp)]
  ·rcases cR i ops.size with I|I
   ·rw[gO I] at hi
    have:i<k0:=by simpa using hi
    omega
   ·rw[sZ I] at hi;cases hi
end Go.Hop
namespace Go.Hop
open Go.RowKit
def gJ(l:aT):jV (dX l):=λ_ _ _ h H=>h.below H
section
variable{A:Nat->List Nat}{aer:Nat->Kind}{S:fx}{tail:dK->G->Prop}{l:List dJ}{F:List (Nat×E×Fact)}
def P8(hw:bz o (yielded ops a.tmps)=true)(K:aer j=none)(hm:iu j S.muts 0=none)(hr:∀k w,S.aeo w0 w->S.before j k w->fR (A j) k F w->(execOp a.eval o).run P w=.ok (.value v0) w)
 (h:ii P ops A aer S w0 tail l (j+1) (a.put o.dst v0) F):ii P ops A aer S w0 tail (o::l) j a F:=by unfold ii;rw[hw,aA rfl,K];exact⟨v0,λk w H hb hf=>⟨w,hr k w H hb hf,by unfold fx.behind;rw[hm];exact S.q.refl w⟩,h⟩
def F8(hw:bz o (yielded ops a.tmps)=true)(c:E)(K:aer j=some (.inl c))(hr:∀k w,S.aeo w0 w->S.before j k w->fR (A j) k F w->eJ P (λu O=>u=c∧S.behind j k w O) ((execOp a.eval o).run P w))
 (h:ii P ops A aer S w0 tail l (j+1) (a.put o.dst c) F):ii P ops A aer S w0 tail (o::l) j a F:=by unfold ii;rw[hw,aA rfl,K];exact⟨hr,h⟩
def P9(hw:bz o (yielded ops a.tmps)=true)(φ:Fact)(K:aer j=some (.inr φ))(hr:∀k w,S.aeo w0 w->S.before j k w->fR (A j) k F w->eJ P (λu O=>S.behind j k w O∧φ (S.next j k) u O) ((execOp a.eval o).run P w))
 (h:∀v,ii P ops A aer S w0 tail l (j+1) (a.put o.dst v) ((j,v,φ)::F)):ii P ops A aer S w0 tail (o::l) j a F:=by unfold ii;rw[hw,aA rfl,K];exact⟨hr,h⟩
end
def jq(a0:dK):List (Tmp×E)->dK
 | []=>a0
 | (d,v)::aev=>(jq a0 aev).put (some d) v
def xo(a0:dK)(aev:List (Tmp×E)):Operand->E
 | .tmp t=>(aev.lookup t).getD (a0.eval (.tmp t))
 | x=>a0.eval x
theorem yv(a0:dK):∀aev:List (Tmp×E),(jq a0 aev).tmps.size=a0.tmps.size
 | []=>rfl
 | (d,v)::aev=>by show ((jq a0 aev).put (some d) v).tmps.size=_;rw[sJ,yv a0 aev]
def fits(n:Nat)(aev:List (Tmp×E)):Prop:=∀x∈aev,x.1<n
theorem BX(a0:dK)(t:Tmp):∀aev:List (Tmp×E),fits a0.tmps.size aev->(jq a0 aev).tmps[t]?=match aev.lookup t with|some v=>some v|none=>a0.tmps[t]?
 | [],_=>rfl
 | (d,v)::aev,h=>by
   have ih:=BX a0 t aev (λx X=>h x (by simp[X]));have hd:d<a0.tmps.size:=h (d,v) (by simp);show ((jq a0 aev).put (some d) v).tmps[t]?=_;rw[List.lookup_cons];by_cases EY:t=d
   ·subst EY
    simp[Act.put,yv,hd]
   ·have hb:(t == d)=false:=by simpa using EY
    rw[qO (λe=>EY (by injection e with e;exact e.symm)),ih,hb]
theorem pN{aev:List (Tmp×E)}(h:fits a0.tmps.size aev)(x:Operand):(jq a0 aev).eval x=xo a0 aev x:=by
 cases x with
 | tmp t=>
   show ((jq a0 aev).tmps.getD t undef)=(aev.lookup t).getD (a0.tmps.getD t undef);rw[Array.getD_eq_getD_getElem?,BX a0 t aev h];cases aev.lookup t<;>simp
 | _=>rfl
def i8(P:dI)(ops:Array dJ)(A:Nat->List Nat)(aer:Nat->Kind)(S:fx)(w0:G)(aeq:dK->G->Prop)(n:Nat)(l:List dJ)(j:Nat)(a0:dK)(aev:List (Tmp×E))(F:List (Nat×E×Fact)):Prop:=a0.tmps.size=n->fits n aev->ii P ops A aer S w0 aeq l j (jq a0 aev) F
def qQ{f:FuncId}{r:Result Next}(hr:r=.ok (.enter f args) w)(h:dF P f args w (λe O=>∃u,e=b5 u∧R u O)):eJ P R r:=by rw[hr];exact h
def gC{r:Result Next}(hr:r=.ok (.value u) w)(h:R u w):eJ P R r:=by rw[hr];exact h
section
variable{A:Nat->List Nat}{aer:Nat->Kind}{S:fx}{l:List dJ}{aev:List (Tmp×E)}{F:List (Nat×E×Fact)}
def jS(ops:Array dJ)(o:dJ)(a0:dK)(aev:List (Tmp×E))(b:Bool):Prop:=fits a0.tmps.size aev->bz o (yielded ops (jq a0 aev).tmps)=b
def eu(h:o.guard=none):jS ops o a0 aev true:=λ_=>by unfold bz;rw[h]
def nL(h:a0.tmps.size=n->fits n aev->∀w,S.aeo w0 w->S.aej S.muts.length w->qN S.muts.length F w->aeq (jq a0 aev) w):i8 P ops A aer S w0 aeq n [] j a0 aev F:=λhn hf=>h hn hf
def vl{d:Tmp}(h:fits n aev)(hd:d<n):fits n ((d,v)::aev):=λx X=>by
 rcases List.mem_cons.1 X with I|I
 ·rw[I];exact hd
 ·exact h x I
def IH(d:Tmp)(hd:o.dst=some d)(hs:d<n)(hw:jS ops o a0 aev true)(K:aer j=none)(hm:iu j S.muts 0=none)(v0:E)
 (hr:∀k w,S.aeo w0 w->S.before j k w->fR (A j) k F w->(execOp (xo a0 aev) o).run P w=.ok (.value v0) w)
 (h:i8 P ops A aer S w0 aeq n l (j+1) a0 ((d,v0)::aev) F):i8 P ops A aer S w0 aeq n (o::l) j a0 aev F:=λhn hf=>by
 have hf':fits a0.tmps.size aev:=by rw[hn];exact hf
 have he:(jq a0 aev).eval=xo a0 aev:=funext (pN hf');refine P8 (hw hf') K hm (v0:=v0) (by rw[he];exact hr) ?_;rw[hd];exact h hn (vl hf hs)
def a1W(d:Tmp)(hd:o.dst=some d)(hs:d<n)(hw:jS ops o a0 aev true)(K:aer j=none)(hm:iu j S.muts 0=none)(x:Operand)(ho:o.op=.move x∨o.op=.assign x)(v0:E)(hv:xo a0 aev x=v0)
 (h:i8 P ops A aer S w0 aeq n l (j+1) a0 ((d,v0)::aev) F):i8 P ops A aer S w0 aeq n (o::l) j a0 aev F:=by refine IH d hd hs hw K hm v0 (λk w _ _ _=>?_) h;obtain⟨dst,op,ty,pos,after,guard⟩:=o;rcases ho with ho|ho<;>simp only at ho<;>subst ho<;>(rw[<-hv];rfl)
def Pb(d:Tmp)(hd:o.dst=some d)(hs:d<n)(hw:jS ops o a0 aev true)(K:aer j=none)(hm:iu j S.muts 0=none)(x:Operand)(vx:E)(X:xo a0 aev x=vx)(v0:E)
 (hr:∀ρ:Operand->E,ρ x=vx->∀k w,S.aeo w0 w->S.before j k w->fR (A j) k F w->(execOp ρ o).run P w=.ok (.value v0) w)
 (h:i8 P ops A aer S w0 aeq n l (j+1) a0 ((d,v0)::aev) F):i8 P ops A aer S w0 aeq n (o::l) j a0 aev F:=
 IH d hd hs hw K hm v0 (hr _ X) h
def Y5(d:Tmp)(hd:o.dst=some d)(hs:d<n)(hw:jS ops o a0 aev true)(K:aer j=none)(hm:iu j S.muts 0=none)(x y:Operand)(vx vy:E)(X:xo a0 aev x=vx)(hy:xo a0 aev y=vy)(v0:E)
 (hr:∀ρ:Operand->E,ρ x=vx->ρ y=vy->∀k w,S.aeo w0 w->S.before j k w->fR (A j) k F w->(execOp ρ o).run P w=.ok (.value v0) w)
 (h:i8 P ops A aer S w0 aeq n l (j+1) a0 ((d,v0)::aev) F):i8 P ops A aer S w0 aeq n (o::l) j a0 aev F:=
 IH d hd hs hw K hm v0 (hr _ X hy) h
def ji(d:Tmp)(v0:E)(h:i8 P ops A aer S w0 aeq n l (j+1) a0 ((d,v0)::aev) F)
 (ho:o.op=.move x∨o.op=.assign x:=by first|exact Or.inl aj|exact Or.inr aj) (hv:xo a0 aev x=v0:=by rfl) (hd:o.dst=some d:=by rfl) (hs:d<n:=by decide) (hw:jS ops o a0 aev true:=by exact eu aj) (K:aer j=none:=by rw[hK.out];rfl) (hm:iu j S.muts 0=none:=by rfl):i8 P ops A aer S w0 aeq n (o::l) j a0 aev F:=a1W d hd hs hw K hm x ho v0 hv h
def eD(d:Tmp)(x:Operand)(vx v0:E)
 (hr:∀ρ:Operand->E,ρ x=vx->∀k w,S.aeo w0 w->S.before j k w->fR (A j) k F w->(execOp ρ o).run P w=.ok (.value v0) w)
 (h:i8 P ops A aer S w0 aeq n l (j+1) a0 ((d,v0)::aev) F) (X:xo a0 aev x=vx:=by rfl) (hd:o.dst=some d:=by rfl) (hs:d<n:=by decide) (hw:jS ops o a0 aev true:=by exact eu aj) (K:aer j=none:=by rw[hK.out];rfl) (hm:iu j S.muts 0=none:=by rfl):i8 P ops A aer S w0 aeq n (o::l) j a0 aev F:=Pb d hd hs hw K hm x vx X v0 hr h
def gT(d:Tmp)(x:Operand)(vx v0:E)(h:i8 P ops A aer S w0 aeq n l (j+1) a0 ((d,v0)::aev) F)
 (hr:∀ρ:Operand->E,ρ x=vx->∀k w,S.aeo w0 w->S.before j k w->fR (A j) k F w->(execOp ρ o).run P w=.ok (.value v0) w:=by intro ρ I kk w1 H hb hf;go_simp)
 (X:xo a0 aev x=vx:=by rfl) (hd:o.dst=some d:=by rfl) (hs:d<n:=by decide) (hw:jS ops o a0 aev true:=by exact eu aj) (K:aer j=none:=by rw[hK.out];rfl) (hm:iu j S.muts 0=none:=by rfl):i8 P ops A aer S w0 aeq n (o::l) j a0 aev F:=Pb d hd hs hw K hm x vx X v0 hr h
def KR(d:Tmp)(x y:Operand)(vx vy v0:E)
 (hr:∀ρ:Operand->E,ρ x=vx->ρ y=vy->∀k w,S.aeo w0 w->S.before j k w->fR (A j) k F w->(execOp ρ o).run P w=.ok (.value v0) w)
 (h:i8 P ops A aer S w0 aeq n l (j+1) a0 ((d,v0)::aev) F) (X:xo a0 aev x=vx:=by rfl) (hy:xo a0 aev y=vy:=by rfl) (hd:o.dst=some d:=by rfl) (hs:d<n:=by decide) (hw:jS ops o a0 aev true:=by exact eu aj) (K:aer j=none:=by rw[hK.out];rfl) (hm:iu j S.muts 0=none:=by rfl):i8 P ops A aer S w0 aeq n (o::l) j a0 aev F:=Y5 d hd hs hw K hm x y vx vy X hy v0 hr h
def Y6(d:Tmp)(hd:o.dst=some d)(hs:d<n)(hw:jS ops o a0 aev true)(c:E)(K:aer j=some (.inl c))
 (hr:∀k w,S.aeo w0 w->S.before j k w->fR (A j) k F w->eJ P (λu O=>u=c∧S.behind j k w O) ((execOp (xo a0 aev) o).run P w))
 (h:i8 P ops A aer S w0 aeq n l (j+1) a0 ((d,c)::aev) F):i8 P ops A aer S w0 aeq n (o::l) j a0 aev F:=λhn hf=>by
 have hf':fits a0.tmps.size aev:=by rw[hn];exact hf
 have he:(jq a0 aev).eval=xo a0 aev:=funext (pN hf');refine F8 (hw hf') c K (by rw[he];exact hr) ?_;rw[hd];exact h hn (vl hf hs)
def yw(d:Tmp)(hd:o.dst=some d)(hs:d<n)(hw:jS ops o a0 aev true)(φ:Fact)(K:aer j=some (.inr φ))
 (hr:∀k w,S.aeo w0 w->S.before j k w->fR (A j) k F w->eJ P (λu O=>S.behind j k w O∧φ (S.next j k) u O) ((execOp (xo a0 aev) o).run P w))
 (h:∀v,i8 P ops A aer S w0 aeq n l (j+1) a0 ((d,v)::aev) ((j,v,φ)::F)):i8 P ops A aer S w0 aeq n (o::l) j a0 aev F:=λhn hf=>by
 have hf':fits a0.tmps.size aev:=by rw[hn];exact hf
 have he:(jq a0 aev).eval=xo a0 aev:=funext (pN hf');refine P9 (hw hf') φ K (by rw[he];exact hr) (λv=>?_);rw[hd];exact h v hn (vl hf hs)
def tX(d:Tmp)(hd:o.dst=some d)(hs:d<n)(hw:jS ops o a0 aev true)(φ:Fact)(K:aer j=some (.inr φ))(x:Operand)(vx:E)(X:xo a0 aev x=vx)
 (hr:∀ρ:Operand->E,ρ x=vx->∀k w,S.aeo w0 w->S.before j k w->fR (A j) k F w->eJ P (λu O=>S.behind j k w O∧φ (S.next j k) u O) ((execOp ρ o).run P w))
 (h:∀v,i8 P ops A aer S w0 aeq n l (j+1) a0 ((d,v)::aev) ((j,v,φ)::F)):i8 P ops A aer S w0 aeq n (o::l) j a0 aev F:=
 yw d hd hs hw φ K (hr _ X) h
def KS(d:Tmp)(hd:o.dst=some d)(hs:d<n)(hw:jS ops o a0 aev true)(φ:Fact)(K:aer j=some (.inr φ))(x y:Operand)(vx vy:E)(X:xo a0 aev x=vx)(hy:xo a0 aev y=vy)
 (hr:∀ρ:Operand->E,ρ x=vx->ρ y=vy->∀k w,S.aeo w0 w->S.before j k w->fR (A j) k F w->eJ P (λu O=>S.behind j k w O∧φ (S.next j k) u O) ((execOp ρ o).run P w))
 (h:∀v,i8 P ops A aer S w0 aeq n l (j+1) a0 ((d,v)::aev) ((j,v,φ)::F)):i8 P ops A aer S w0 aeq n (o::l) j a0 aev F:=
 yw d hd hs hw φ K (hr _ X hy) h
def a1X(hd:o.dst=none)(hw:jS ops o a0 aev true)(c:E)(K:aer j=some (.inl c))
 (hr:∀k w,S.aeo w0 w->S.before j k w->fR (A j) k F w->eJ P (λu O=>u=c∧S.behind j k w O) ((execOp (xo a0 aev) o).run P w))
 (h:i8 P ops A aer S w0 aeq n l (j+1) a0 aev F):i8 P ops A aer S w0 aeq n (o::l) j a0 aev F:=λhn hf=>by
 have hf':fits a0.tmps.size aev:=by rw[hn];exact hf
 have he:(jq a0 aev).eval=xo a0 aev:=funext (pN hf');refine F8 (hw hf') c K (by rw[he];exact hr) ?_;rw[hd];exact h hn hf
def Pf(hd:o.dst=none)(hw:jS ops o a0 aev true)(c:E)(K:aer j=some (.inl c))(x y:Operand)(vx vy:E)(X:xo a0 aev x=vx)(hy:xo a0 aev y=vy)
 (hr:∀ρ:Operand->E,ρ x=vx->ρ y=vy->∀k w,S.aeo w0 w->S.before j k w->fR (A j) k F w->eJ P (λu O=>u=c∧S.behind j k w O) ((execOp ρ o).run P w))
 (h:i8 P ops A aer S w0 aeq n l (j+1) a0 aev F):i8 P ops A aer S w0 aeq n (o::l) j a0 aev F:=a1X hd hw c K (hr _ X hy) h
def BZ(P:dI)(ρ:Operand->E)(o:dJ)(f:FuncId)(xs:List Operand)(ts:Array dH)(ho:o.op=.call { callee := .value (.func f),args:=xs.toArray,argTypes:=ts })(hρ:ρ (.func f)=.func (.func f) #[] #[])(WH:∀(vs:aP)(w:G),(callFunc f vs).run P w=.ok (.enter f vs) w)(w:G):(execOp ρ o).run P w=.ok (.enter f (xs.map ρ).toArray) w:=by obtain⟨dst,op,ty,pos,after,guard⟩:=o;simp only at ho;subst ho;go_simp
def tY(d:Tmp)(hd:o.dst=some d)(hs:d<n)(hw:jS ops o a0 aev true)(c:E)(K:aer j=some (.inl c))(f:FuncId)(xs:List Operand)(ts:Array dH)
 (ho:o.op=.call { callee := .value (.func f),args:=xs.toArray,argTypes:=ts }) (args:List E) (Mi:xs.map (xo a0 aev)=args) (WH:∀(vs:aP)(w:G),(callFunc f vs).run P w=.ok (.enter f vs) w)
 (hr:∀k w,S.aeo w0 w->S.before j k w->fR (A j) k F w->dF P f args.toArray w (λe O=>e=b5 c∧S.behind j k w O))
 (h:i8 P ops A aer S w0 aeq n l (j+1) a0 ((d,c)::aev) F):i8 P ops A aer S w0 aeq n (o::l) j a0 aev F:=
 Y6 d hd hs hw c K (λk w H hb hf=>qQ (by rw[BZ P _ o f xs ts ho rfl WH w,Mi]) ((hr k w H hb hf).mono λ_ _ ⟨he,xO⟩=>⟨c,he,rfl,xO⟩)) h
def gP(d:Tmp)(hd:o.dst=some d)(hs:d<n)(hw:jS ops o a0 aev true)(φ:Fact)(K:aer j=some (.inr φ))(f:FuncId)(xs:List Operand)(ts:Array dH)
 (ho:o.op=.call { callee := .value (.func f),args:=xs.toArray,argTypes:=ts }) (args:List E) (Mi:xs.map (xo a0 aev)=args) (WH:∀(vs:aP)(w:G),(callFunc f vs).run P w=.ok (.enter f vs) w)
 (hr:∀k w,S.aeo w0 w->S.before j k w->fR (A j) k F w->dF P f args.toArray w (λe O=>∃u,e=b5 u∧S.behind j k w O∧φ (S.next j k) u O))
 (h:∀v,i8 P ops A aer S w0 aeq n l (j+1) a0 ((d,v)::aev) ((j,v,φ)::F)):i8 P ops A aer S w0 aeq n (o::l) j a0 aev F:=
 yw d hd hs hw φ K (λk w H hb hf=>qQ (by rw[BZ P _ o f xs ts ho rfl WH w,Mi]) (hr k w H hb hf)) h
end
def gj{φ:Fact}{F:List (Nat×E×Fact)}(h:fR dM k ((i,v,φ)::F) w)(hc:dM.contains i=true):φ k v w:=by unfold fR at h;rw[aA hc] at h;exact h.1
def II{x:Nat×E×Fact}{F:List (Nat×E×Fact)}(h:fR dM k (x::F) w):fR dM k F w:=by
 obtain⟨i,v,φ⟩:=x;unfold fR at h;split at h;·exact h.2
 ·exact h
def rP{f:FuncId}(h:dF P f args w (λe O=>e=b5 v∧w=O)):dF P f args w (λe O=>e=b5 v∧Grow w O):=h.mono λ_ _ ⟨he,hw⟩=>⟨he,hw▸Grow.refl _⟩
def qR{S:fx}(h:iu j S.muts 0=none)(H:S.q.rel w O):S.behind j k w O:=by unfold fx.behind;rw[h];exact H
def wK{S:fx}(t:Nat)(h:iu j S.muts 0=some t)(H:S.aeq k w O)(hi:S.aej (k+1) O):S.behind j k w O:=by unfold fx.behind;rw[h];exact⟨H,hi⟩
def B_{S:fx}(h:iu j S.muts 0=none):S.next j k=k:=by unfold fx.next;rw[h]
def MC{S:fx}(t:Nat)(h:iu j S.muts 0=some t):S.next j k=k+1:=by unfold fx.next;rw[h]
def kU{S:fx}(t:Nat)(h:S.stage j=some t)(hb:S.before j k w):k=t:=hb.2 t h
def lj{f:FuncId}{S:fx}{c:E}(hm:iu j S.muts 0=none)(h:dF P f args w (λe O=>e=b5 c∧S.q.rel w O)):dF P f args w (λe O=>e=b5 c∧S.behind j k w O):=h.mono λ_ _ ⟨he,H⟩=>⟨he,qR hm H⟩
def fj{f:FuncId}{S:fx}{φ:Fact}(hm:iu j S.muts 0=none)(h:dF P f args w (λe O=>∃u,e=b5 u∧S.q.rel w O∧φ k u O)):dF P f args w (λe O=>∃u,e=b5 u∧S.behind j k w O∧φ (S.next j k) u O):=h.mono λ_ _ ⟨u,he,H,hp⟩=>⟨u,he,qR hm H,by rw[B_ hm];exact hp⟩
theorem tZ{R':E->G->Prop}{r:Result Next}(h:eJ P R r)(hi:∀u w,R u w->R' u w):eJ P R' r:=by
 cases r with
 | ok n O=>
   cases n with
   | value u=>exact hi _ _ h
   | skip=>exact hi _ _ h
   | enter f args=>exact Calls.mono h (λe w'' ⟨u,he,hr⟩=>⟨u,he,hi _ _ hr⟩)
   | _=>exact h.elim
 | halt x O=>exact h.elim
def i9{S:fx}{φ:Fact}{r:Result Next}(hm:iu j S.muts 0=none)(h:eJ P (λu O=>S.q.rel w O∧φ k u O) r):eJ P (λu O=>S.behind j k w O∧φ (S.next j k) u O) r:=tZ h λ_ _ ⟨H,hp⟩=>⟨qR hm H,by rw[B_ hm];exact hp⟩
def C0{S:fx}{c:E}{r:Result Next}(t:Nat)(hm:iu j S.muts 0=some t)(h:eJ P (λu O=>u=c∧S.aeq k w O∧S.aej (k+1) O) r):eJ P (λu O=>u=c∧S.behind j k w O) r:=tZ h λ_ _ ⟨he,H,hi⟩=>⟨he,wK t hm H hi⟩
def t_(S:fx)(L:S.Ok)(k0 m n:Nat)(kinds:List (Nat×(E ⊕ Fact)))(hn:a.tmps.size=n)
 (hA:qP ops (kz ops)=true) (mT:tU ops.size (kz ops) k0 m=true) (kc:nJ (kz ops) k0 m S.muts S.stage=true) (sD:∀x∈kinds,∀φ,x.2=.inr φ->p9 S φ)
 (H:S.aeo w0 w) (hi:S.aej 0 w)
 (h:∀(ops':Array dJ)(A:Nat->List Nat)(aer:Nat->Kind)(aeq:dK->G->Prop),Hid (ops'=ops)->Hid (A=kz ops)->Hid (aer=λj=>kinds.lookup j)->(∀a' O,tV P ops aes m a' O->aeq a' O)->
  i8 P ops' A aer S w0 aeq n ((ops.toList.take m).drop k0) k0 a [] []):tV P ops aes k0 a w:=
 IG S L k0 m kinds hA mT kc sD H hi (h ops _ _ _ rfl rfl rfl (λ_ _ h=>h) hn (λx X=>by cases X))
theorem wL{P:dI}{ops:Array dJ}{aes:Exit->dK->G->Prop}{R:dK->G->Prop}(W:∀a w,aes .normal a w->R a w):∀(l:List dJ)(a:dK)(w:G),wpList P ops aes l a w->wpList P ops (Exit.then R aes) l a w
 | [],a,w,h=>W a w h
 | o::l,a,w,h=>by
   have ih:=wL (P:=P) (ops:=ops) W l;unfold wpList at h ⊢;split
   ·rename_i hw
    rw[aA hw] at h;refine h.imp (λT=>?_) (λT=>⟨T.1,?_⟩)
    ·have h4:o.wp P a w (wpList P ops (Exit.then R aes) l) aes:=Oper.wp_mono (λa' O h'=>ih a' O h') T
     unfold Oper.wp at h4 ⊢;generalize (execOp a.eval o).run P w=r at *;cases r with
     | ok n O=>
       cases n<;>simp only[Oper.upon] at h4 ⊢<;>first
        | exact h4
        | exact Calls.mono h4 (λe w'' he=>by
         cases e with
         | returned u=>exact he
         | panicked c=>exact he
         | outgrown=>obtain⟨a1,w1,h5⟩:=he;exact⟨a1,w1,h5⟩)
     | halt x O=>cases x<;>simp only[Oper.upon] at h4 ⊢<;>exact h4
    ·obtain⟨a1,w1,h5⟩:=T.2;exact⟨a1,w1,h5⟩
   ·rename_i hw
    rw[aB hw] at h;exact ih _ _ h
def ia{id:Nat}(m n:Nat)(kinds:List (Nat×(E ⊕ Fact)))(hn:a.tmps.size=n)
 (Y4:P.follows .mixedOrders=true) (hA:qP ops (kz ops)=true) (mT:tU ops.size (kz ops) 0 m=true) (a1Y:(decide (m<=ops.size)&&decide (ops.size<=ops.size)&&(bF ops.size).all λi=>decide (i<m)||tU ops.size (kz ops) i (i+1))=true)
 (sD:∀x∈kinds,∀φ,x.2=.inr φ->p9 quiet φ)
 (h:∀(ops':Array dJ)(A:Nat->List Nat)(aer:Nat->Kind)(aeq:dK->G->Prop),Hid (ops'=ops)->Hid (A=kz ops)->Hid (aer=λj=>kinds.lookup j)->(∀a' O,wpList P ops aes (ops.toList.drop m) a' O->aeq a' O)->
  i8 P ops' A aer quiet w aeq n (ops.toList.take m) 0 a [] []):(Code.region id ops true).wp P aes a w:=by
 refine dO Y4 (t_ quiet F7 0 m n kinds hn hA mT (by simp[nJ,quiet]) sD (Grow.refl w).drew trivial (λops' A aer aeq I Z T h4=>h ops' A aer aeq I Z T (λa' O h5=>h4 a' O ?_)))
 refine tW m ops.size hA a1Y ?_
 rw[show (ops.toList.take ops.size).drop m=ops.toList.drop m by rw[bH (by simp)]]
 exact wL (λ_ _=>ob) _ _ _ h5
structure dP(V:Nat->Prop)(a b:G):Prop where
 os:b.os=a.os
 tape:b.tape=a.tape
 output:b.output=a.output
 size:(a:Nat)<=(b:Nat)
 block:∀k,k<(a:Nat)->¬ V k->b.heap[k]?=a.heap[k]?
section
variable{a b c:G}
def dP.dR(h:Grow a b):dP V a b:=⟨h.os,h.tape,h.output,h.size,λk K _=>h.block k K⟩
def dP.jW(h:fX g a b)(H:V g):dP V a b:=⟨h.os,h.tape,h.output,h.size,λk K hv=>h.block k K (λe=>hv (by injection e with e;rw[e];exact H))⟩
theorem dP.trans(h:dP V a b)(k:dP V b c):dP V a c:=⟨k.os.trans h.os,k.tape.trans h.tape,k.output.trans h.output,bA h.size k.size,λi hi hv=>(k.block i (bu hi h.size) hv).trans (h.block i hi hv)⟩
def dP.imp(h:dP V a b)(hi:∀k,V k->V' k):dP V' a b:=⟨h.os,h.tape,h.output,h.size,λk K hv=>h.block k K (λe=>hv (hi k e))⟩
def dP.blk(h:dP V a b){k:Nat}{t:dH}{cs:aP}(K:eL a k t cs)(hv:¬ V k):eL b k t cs:=(h.block k K.lt hv).trans K
def dP.below(h:dP V a b){B:Nat}(hV:∀k,V k->B<=k)(hs:B<=(a:Nat)):Below B a b:=⟨h.os,h.tape,h.output,h.size,λk K=>h.block k ap (λe=>by have:=hV k e;omega)⟩
end
end Go.Hop
end
namespace Go.Hop
open RowKit
section
variable{C:G->Prop}{f:FuncId}{vs:aP}
def TT(R:E->dK->Prop)(a:dK)(o:dJ)(w:G):Result Next->Prop
 | .ok (.value v) O=>O=w∧R v (a.put o.dst v)
 | _=>False
def a1Z(R:FuncId->Array E->Prop)(w:G):Result Next->Prop
 | .ok (.enter f vs) O=>O=w∧R f vs
 | _=>False
def a6C{R:E->dK->Prop}:TT R a o w (.ok (.value v) O)=(O=w∧R v (a.put o.dst v)):=rfl
def a6D{R:FuncId->Array E->Prop}:a1Z R w (.ok (.enter f vs) O)=(O=w∧R f vs):=rfl
attribute [go_sem] a6C a6D
def TU{R:E->dK->Prop}{c:Prop}[Decidable c]{r s:Result Next}(hc:c)(h:TT R a o w r):TT R a o w (if c then r else s):=by rw[aA hc];exact h
def MD(hy:∀w,C w->∀R:E->dK->Prop,R v a'->TT R a o w ((execOp a.eval o).run P w))(K:∃w,C w)(h:aer a'):o.quiet P a C aer:=by
 have key:∀w,C w->(execOp a.eval o).run P w=.ok (.value v) w∧a.put o.dst v=a':=λw hC=>by
  have I:=hy w hC (λu b=>u=v∧b=a') ⟨rfl,rfl⟩;cases hr:(execOp a.eval o).run P w with
  | ok n O=>
    rw[hr] at I;cases n with
    | value u=>
      obtain⟨rfl,rfl,Z⟩:=I;exact⟨rfl,Z⟩
    | _=>exact I.elim
  | halt _ _=>rw[hr] at I;exact I.elim
 refine⟨v,λw hC=>?_,?_⟩
 ·unfold Oper.quietAt
  rw[(key w hC).1];exact⟨rfl,rfl⟩
 ·obtain⟨w,hC⟩:=K
  rw[(key w hC).2];exact h
theorem IJ(hy:∀w,C w->∀R:FuncId->Array E->Prop,R f vs->a1Z R w ((execOp a.eval o).run P w))(hc:∀w,C w->dF P f vs w λe O=>e=b5 v∧C O)(h:aer (a.put o.dst v)):o.quiet P a C aer:=by
 refine⟨v,λw hC=>?_,h⟩;have I:=hy w hC (λg us=>g=f∧us=vs) ⟨rfl,rfl⟩;unfold Oper.quietAt;cases hr:(execOp a.eval o).run P w with
 | ok n O=>
   rw[hr] at I;cases n with
   | enter g us=>
     obtain⟨rfl,rfl,rfl⟩:=I;exact⟨rfl,hc _ hC⟩
   | _=>exact I.elim
 | halt _ _=>rw[hr] at I;exact I.elim
def qc(h:∀w1,Grow w0 w1->dF P f vs w1 λe O=>e=b5 v∧Grow w1 O):∀w1,Grow w0 w1->dF P f vs w1 λe O=>e=b5 v∧Grow w0 O:=λw1 H=>(h w1 H).mono λ_ _ ⟨he,Z⟩=>⟨he,H.trans Z⟩
def qs(h:∀w1,dF P f vs w1 λe O=>e=b5 v∧w1=O):∀w1,Grow w0 w1->dF P f vs w1 λe O=>e=b5 v∧Grow w0 O:=λw1 H=>(h w1).mono λ_ _ ⟨he,Z⟩=>⟨he,Z▸H⟩
structure X5(p:Prop):Prop where
 out:p
def fv{id:Nat}{l:List dJ}{R:Prop}(h:R)
 (hs:X5 R->wpQuiet P l.toArray (Grow w) (λa'=>∀O,Grow w O->aes .normal a' O) l a:=by
  intro W;repeat (first|go_big_quiet_skip|(go_big_quiet_want;first|(refine MD (λw1 H R W=>by go_simp;first|exact W|(refine TU ap ?_;go_simp;exact W)) ⟨_,Grow.refl _⟩ ?_;go_big_quiet_on)|(refine IJ (λw1 H R W=>by go_simp;exact W) (by first|exact qc (by with_reducible assumption)|exact qs (by with_reducible assumption)) ?_;go_simp;go_big_quiet_on)))
  exact wpQuiet_nil W.out)
 (hm:P.follows .mixedOrders=true:=by rfl) (hB:Region.lexB .any l.toArray=true:=by kernel_rfl):(Code.region id l.toArray true).wp P aes a w:=
 wp_region_quiet (C:=Grow w) hm hB (Grow.refl _).drew (by simpa using hs ⟨h⟩)
def sc(h:∀w1,dF P f vs w1 λe O=>e=b5 v∧w1=O):dF P f vs w λe O=>e=b5 v∧O=w:=(h w).mono λ_ _ ⟨he,Z⟩=>⟨he,Z.symm⟩
def sg(h:∀w1,Grow w0 w1->dF P f vs w1 λe O=>e=b5 v∧w1=O)(H:Grow w0 w):dF P f vs w λe O=>e=b5 v∧O=w:=(h w H).mono λ_ _ ⟨he,Z⟩=>⟨he,Z.symm⟩
def kA{id:Nat}{l:List dJ}{R:G->Prop}(n:Nat)(h:∀w1,Grow w w1->R w1)
 (hs:∀w1,Grow w w1->X5 (R w1)->wpStill P l.toArray w1 (λa'=>wpList P l.toArray aes (l.drop n) a' w1) (l.take n) a:=by
  intro w1 H W;simp only[cD,List.take_zero,cJ,d9];repeat (refine wpStill_step (λaer hK=>?_);go_simp;first|(refine hK _ ?_;clear hK aer)|(refine⟨_,(by first|exact sg (by with_reducible assumption) H|exact sc (by with_reducible assumption)),hK _ ?_⟩;clear hK aer))
  exact wpStill_nil W.out)
 (hm:P.follows .mixedOrders=true:=by rfl) (hB:Region.lexTailB .any l.toArray n=true:=by kernel_rfl):(Code.region id l.toArray true).wp P aes a w:=
 wp_region_still_tail n hm hB (hs w.drew (Grow.refl w).drew ⟨h _ (Grow.refl w).drew⟩)
end
def Own(w:G)(V:aV)(e:dH)(size:Nat)(v:E)(n:Nat)(xs:List E):Prop:=
 xs.length=n*size∧((v=Y none 0 0∧n=0)∨
  ∃g cap cur,v=Y (some ⟨g,0,none⟩) n cap∧V g∧w.heap[g]?=some (.cells cur e (0,0))∧n<=cap∧cap<=dL∧(cur.size=cap*size∨(cap=n∧n*size<=cur.size))∧cur.toList.take (n*size)=xs)
def ju(V:aV)(w O:G)(b:Nat):Prop:=V b∨((w:Nat)<=b∧b<(O:Nat))
section
variable{size:Nat}
def Own.nil:Own w V e size (Y none 0 0) 0 []:=⟨by simp,.inl ⟨rfl,rfl⟩⟩
def Own.mono(h:Own w V e size v n xs)(hV:∀b,V b->V' b):Own w V' e size v n xs:=by
 refine⟨h.1,?_⟩;rcases h.2 with Z|⟨g,cap,cur,I,Z,T⟩
 ·exact .inl Z
 ·exact .inr ⟨g,cap,cur,I,hV g Z,T⟩
def Own.keep(h:Own w V e size v n xs)(K:∀b,V b->O.heap[b]?=w.heap[b]?):Own O V e size v n xs:=by
 refine⟨h.1,?_⟩;rcases h.2 with Z|⟨g,cap,cur,I,Z,T,h4⟩
 ·exact .inl Z
 ·exact .inr ⟨g,cap,cur,I,Z,(K g Z).trans T,h4⟩
def Own.yx{base:Nat}(h:w.ownsRow base e size v n xs)(hV:∀g,v.ownBlock=some g->V g):Own w V e size v n xs:=by
 refine⟨h.1,?_⟩;rcases h.2 with Z|⟨g,cap,cur,I,_,T,h4,h5,h6,h7⟩
 ·exact .inl Z
 ·exact .inr ⟨g,cap,cur,I,hV g (by rw[I];rfl),T,h4,h5,.inl h6,h7⟩
def Own.reads(h:Own w V e size v n xs):∃A c,v=Y A n c∧Reads w (w:Nat) size A n xs∧n<=c∧c<=dL:=by
 rcases h.2 with ⟨rfl,rfl⟩|⟨g,cap,cur,rfl,_,H,hn,hm,jo,jA⟩
 ·exact⟨none,0,rfl,⟨h.1,λhh=>absurd hh ap⟩,bh _,bo _⟩
 ·refine⟨_,cap,rfl,⟨h.1,λ_=>⟨_,rfl,(Array.getElem?_eq_some_iff.1 H).1,λj u hu=>?_⟩⟩,hn,hm⟩
  have qG:((g,0):dG).add j=⟨g,j,none⟩:=by unfold Addr.add;split<;>simp_all
  rw[qG,cell_of_row _ _ _ _ _ _ H];rw[<-jA,List.getElem?_take] at hu;split at hu;·simpa using hu
  ·cases hu
def Own.cut(h:Own w V e size (Y A n c) n xs)(K:k<=n):Own w V e size (Y A k k) k (xs.take (k*size)):=by
 have hks:k*size<=n*size:=cK _ K;refine⟨by rw[bn,h.1];exact cF hks,?_⟩;rcases h.2 with ⟨I,rfl⟩|⟨g,cap,cur,I,hV,H,hn,hm,jo,jA⟩
 ·injection I with I Z T
  subst I;obtain rfl:k=0:=by omega
  exact .inl ⟨rfl,rfl⟩
 ·injection I with I Z T
  subst I;subst T;refine .inr ⟨g,k,cur,rfl,hV,H,bh _,by omega,.inr ⟨rfl,?_⟩,?_⟩
  ·have:=cK size hn
   rcases jo with jo|⟨_,jo⟩<;>omega
  ·rw[<-jA,List.take_take,cF hks]
def Own.put(h:Own w V e size v n xs){g:Nat}(H:¬ V g)(i:Nat)(u:E):Own (w.setCell ⟨g,i,none⟩ u) V e size v n xs:=h.keep λb hb=>Below.heap_setCell w ⟨g,i,none⟩ u b (λe=>H (by rw[<-show b=g from e];exact hb))
def Own.grow(h:Own w V e size v n xs)(hV:∀b,V b->b<(w:Nat))(H:Grow w O):Own O V e size v n xs:=h.keep λb hb=>H.block b (hV b hb)
def gV(w:G)(p:dG)(u:E):(w.setCell p u).heap.size=(w:Nat):=by simp[World.setCell]
theorem dP.put{a b:G}(h:dP V a b){g:Nat}(H:V g)(i:Nat)(u:E):dP V a (b.setCell ⟨g,i,none⟩ u):=h.trans (dP.jW ((fX.refl g b).put i u) H)
end
section
variable{size:Nat}
theorem Reads.src(aep:Elem P t e size bytes z)(hr:Reads w B size A m news)(hm:m=0):Src P size t (Y A m c) 0 [] w:=by
 subst hm;cases A with
 | none=>exact Src.ofNil w aep.und c
 | some ad=>exact Src.ofSlice w aep.und ad 0 c [] (by simp) (by simp) (by simp)
def jK(aep:Elem P t e size bytes z)(w:G)(ty:Nat)(v:E)(n:Nat)(xs:List E)(iC:Own w V e size v n xs)
 (B:Nat) (A:aU) (m c:Nat) (news:List E) (hr:Reads w B size A m news) (I:∀u∈news,u.oneCell'=true)
 (fC:(n+m)*bytes<=140737488355328):∃v' O,(cA #[t,t] ty #[v,Y A m c]).run P w=.ok v' O∧Own O (ju V w O) e size v' (n+m) (xs++news)∧dP V w O:=by
 have whole:w.ownsRow 0 e size v n xs->(∀g,v.ownBlock=some g->V g)->∃v' O,(cA #[t,t] ty #[v,Y A m c]).run P w=.ok v' O∧Own O (ju V w O) e size v' (n+m) (xs++news)∧dP V w O:=λho hV=>by
  obtain⟨v',O,eM,Z,T,h4⟩:=oZ aep w 0 ty v n xs ho B A m c news hr I fC (bo _);refine⟨v',O,eM,.yx Z λg H=>?_,⟨T.os,T.tape,T.output,T.size,λk K hv=>T.block k K (λe=>hv (hV k e.symm))⟩⟩;rcases h4 with h4|h4
  ·exact .inl (hV g (by rw[<-h4,H]))
  ·rw[H] at h4;injection h4 with h4
   have:=Z.lt g H;exact .inr ⟨by omega,this.2⟩
 rcases iC.2 with ⟨rfl,rfl⟩|⟨g,cap,cur,rfl,hV,H,hn,hm,jo,jA⟩
 ·exact whole ⟨iC.1,.inl ⟨rfl,rfl⟩⟩ (λg H=>by cases H)
 ·rcases jo with jo|⟨rfl,jo⟩
  ·exact whole ⟨iC.1,.inr ⟨g,cap,cur,rfl,bo _,H,hn,hm,jo,jA⟩⟩ (λg' xO=>by injection xO with xO;rw[<-xO];exact hV)
  ·obtain⟨i,hi,hz,hs,hb⟩:=aep.info
   by_cases tK:m=0
   ·have BL:=hr.src (c:=c) aep tK
    subst tK;obtain rfl:news=[]:=bv (by simpa using hr.1);have:=run_append_nothing (P:=P) w t t ty e i aep.und hi (some (g,0)) cap cap (bh _) (Y A 0 c) (by rw[hs];exact BL);refine⟨_,w,this,?_,dP.dR (Grow.refl w)⟩;rw[bm];exact iC.mono λb hb => .inl hb
   ·obtain⟨ad,rfl,_,hc⟩:=hr.2 ap
    obtain⟨A',c',hv,sE,_,_⟩:=iC.reads;have OU:cap+m<=dL:=by have:=Nat.le_mul_of_pos_right (cap+m) aep.bpos;simp only[dL];omega
    have holds:∀j u,xs[j]?=some u->w.cell? (((g,0):dG).add j)=some u:=by
     intro j u hu;have fM:0<cap:=by
      rcases cn cap with h0|h0
      ·have:xs.length=0:=by rw[iC.1,h0];simp
       rw[bv this] at hu;simp at hu
      ·exact h0
     obtain⟨ad',e',_,hc'⟩:=sE.2 fM;injection hv with hv;rw[<-hv] at e';injection e' with e';rw[e'];exact hc' j u hu
    obtain⟨v',O,eM,r1,r2⟩:=run_append_arg_grows (P:=P) w t ty e i z size bytes aep.und hi hz hs hb aep.zs aep.pos (g,0) cap cap xs iC.1 holds ad m c news hr.1 hc ap OU fC;refine⟨v',O,eM,.yx r1 λg' xO=>?_,⟨r2.os,r2.tape,r2.output,r2.size,λk K _=>r2.block k K (by simp)⟩⟩;have I:=r1.lt g' xO;rcases r1.2 with ⟨hv',_⟩|⟨g2,_,_,hv',xh,_⟩
    ·rw[hv'] at xO;cases xO
    ·rw[hv'] at xO;injection xO with xO
     subst xO;exact .inr ⟨xh,I.2⟩
def fZ(aep:Elem P t e size bytes z)(w:G)(hw:bz o (yielded ops a.tmps)=true)(s x:Operand)
 (ho:o.op=.call { callee := .builtin .append,args:=#[s,x],argTypes:=#[t,t] })
 (v:E) (n:Nat) (xs:List E) (hs:a.eval s=v) (iC:Own w V e size v n xs)
 (B:Nat) (A:aU) (m c:Nat) (news:List E) (X:a.eval x=Y A m c) (hr:Reads w B size A m news) (I:∀u∈news,u.oneCell'=true)
 (fC:(n+m)*bytes<=140737488355328)
 (h:∀v' O,Own O (ju V w O) e size v' (n+m) (xs++news)->dP V w O->wpList P ops aes rest (a.put o.dst v') O):wpList P ops aes (o::rest) a w:=by obtain⟨v',O,eM,Z,T⟩:=jK aep w o.type v n xs iC B A m c news hr I fC;unfold wpList;rw[aA hw];refine .inl ?_;unfold Oper.wp execOp;simp only[ho,resolve,invoke,builtin,Sem.run_bind,Sem.run_pure,Result.andThen_ok,cZ,bX,cS,hs,X,eM];exact h v' O Z T
end
theorem qS(src dst e:dH)(hs:P.underlying src=some (.slice e))(he:P.underlying e=some (.int .u8))(hd:P.underlying dst=some .string)
 (w:G) {B:Nat} {A:aU} {n c:Nat} {l:aT} (h:Bytes w B A n l):(convert src dst (Y A n c)).run P w=.ok (aX ⟨l.toArray⟩) w:=by
 have hl:=h.len;cases A with
 | none=>
   have hn:n=0:=by
    rcases cn n with h0|h0
    ·exact h0
    ·obtain⟨_,e',_⟩:=h.2 h0;cases e'
   subst hn;obtain rfl:l=[]:=bv hl;exact run_convert_bytes_nil w src e hs he 0 c dst hd
 | some ad=>
   subst hl;refine run_convert_bytes_back w src dst e ad c l hs he hd λj hj=>?_;obtain⟨ad',_,e',hc⟩:=h.at_ hj;injection e' with e';rw[e'];exact hc
def F9(src dst e:dH)(hs:P.underlying src=some (.slice e))(he:P.underlying e=some (.int .u8))(hd:P.underlying dst=some .string)
 (w:G) {u:E} {l:aT} (h:dX l u w):(convert src dst u).run P w=.ok (aX ⟨l.toArray⟩) w:=by obtain⟨A,n,c,rfl,h,_⟩:=h;exact qS src dst e hs he hd w h
def Own.isBytes{e:Nat}(h:Own w V e 1 v n (lg l)):dX l v w:=by obtain⟨A,c,rfl,W,I,Z⟩:=h.reads;exact⟨A,n,c,rfl,W,I,Z⟩
abbrev ei:=G->(Nat->Prop)->Prop
def eQ(S:ei):Prop:=∀w O V,S w V->(∀b,V b->O.heap[b]?=w.heap[b]?)->S O V
def Solo(P:aV)(S:ei)(w:G):Prop:=(∀b,(w:Nat)<=b->P b)∧∃V:aV,S w V∧(∀b,V b->P b∧b<(w:Nat))
def j9(Pr:dI)(f:FuncId)(args:aP)(C:Ending->Prop)(S S':ei)(w:G):Prop:=∀V:aV,S w V->(∀b,V b->b<(w:Nat))->dF Pr f args w λe O=>C e∧S' O (ju V w O)∧dP V w O
section
variable{P:aV}{S S' R R':ei}
def Pg(hV:∀b,V b->P b∧b<(w:Nat))(hP:∀b,(w:Nat)<=b->P b)(hs:(w:Nat)<=(O:Nat)):∀b,ju V w O b->P b∧b<(O:Nat):=λb hb=>by
 rcases hb with h|⟨I,Z⟩
 ·have:=hV b h;exact⟨this.1,by omega⟩
 ·exact⟨hP b I,Z⟩
def Solo.grow(h:Solo P S w)(L:eQ S)(H:Grow w O):Solo P S O:=by obtain⟨h0,V,I,h4⟩:=h;exact⟨λb hb=>h0 b (bA H.size hb),V,L w O V I (λb hb=>H.block b (h4 b hb).2),λb hb=>⟨(h4 b hb).1,bu (h4 b hb).2 H.size⟩⟩
end
def Past(B x b:Nat):Prop:=B<=b∧b≠x
theorem flat_get{α β:Type}(f:α->List β)(m:Nat)(hf:∀a,(f a).length=m):∀(l:List α)(k j:Nat)(K:k<l.length),j<m->(l.flatMap f)[k*m+j]?=(f l[k])[j]?
 | [],k,_,K,_=>by simp at K
 | a::l,0,j,_,hj=>by
   rw[bN,Nat.zero_mul,cL,List.getElem?_append_left (by rw[hf];exact hj)];rfl
 | a::l,k+1,j,K,hj=>by
   rw[bN,List.getElem?_append_right (by rw[hf,Nat.add_mul];omega),hf,show (k+1)*m+j-m=k*m+j by rw[Nat.add_mul];omega];rw[flat_get f m hf l k j (by simpa using K) hj];rfl
theorem jL{α β:Type}(f:α->List β)(m:Nat)(hf:∀a,(f a).length=m):∀(l:List α),(l.flatMap f).length=l.length*m
 | []=>by simp
 | a::l=>by rw[bN,bd,hf,jL f m hf l,bC,Nat.add_mul];omega
section
variable{size:Nat}
def xp(aep:Elem P t e size bytes z)(w:G)(ty:Nat)(v:E)(n:Nat)(xs:List E)(iC:Own w V e size v n xs)
 (B:Nat) (A:aU) (m c:Nat) (news:List E) (hr:Reads w B size A m news) (I:∀u∈news,u.oneCell'=true)
 (fC:(n+m)*bytes<=140737488355328):∃v' O,(cA #[t,t] ty #[v,Y A m c]).run P w=.ok v' O∧Own O (ju V w O) e size v' (n+m) (xs++news)∧dP V w O∧Own O V e size v n xs:=by
 obtain⟨i,hi,hz,hs,hb⟩:=aep.info;have OU:n+m<=dL:=by have:=Nat.le_mul_of_pos_right (n+m) aep.bpos;simp only[dL];omega
 by_cases tK:m=0
 ·have BL:=hr.src (c:=c) aep tK
  subst tK;obtain rfl:news=[]:=bv (by simpa using hr.1);obtain⟨A',c',rfl,_,jf,_⟩:=iC.reads;have:=run_append_nothing (P:=P) w t t ty e i aep.und hi A' n c' jf (Y A 0 c) (by rw[hs];exact BL);refine⟨_,w,this,?_,dP.dR (Grow.refl w),iC⟩;rw[bm];exact iC.mono λb hb => .inl hb
 ·obtain⟨ad,rfl,_,hc⟩:=hr.2 ap
  have fin:∀v' O,O.ownsRow (w:Nat) e size v' (n+m) (xs++news)->w.grownBy O none->Own O (ju V w O) e size v' (n+m) (xs++news)∧dP V w O∧Own O V e size v n xs:=λv' O r1 r2=>by
   refine⟨.yx r1 λg' xO=>?_,⟨r2.os,r2.tape,r2.output,r2.size,λk K _=>r2.block k K (by simp)⟩,?_⟩
   ·have I:=r1.lt g' xO
    rcases r1.2 with ⟨hv',_⟩|⟨g2,_,_,hv',xh,_⟩
    ·rw[hv'] at xO;cases xO
    ·rw[hv'] at xO;injection xO with xO
     subst xO;exact .inr ⟨xh,I.2⟩
   ·refine⟨iC.1,?_⟩
    rcases iC.2 with Z|⟨g,cap,cur,I,Z,T,h4⟩
    ·exact .inl Z
    ·exact .inr ⟨g,cap,cur,I,Z,(r2.block g (Array.getElem?_eq_some_iff.1 T).1 (by simp)).trans T,h4⟩
  rcases iC.2 with ⟨rfl,rfl⟩|⟨g,cap,cur,rfl,hV,H,jf,jg,jo,jA⟩
  ·obtain rfl:xs=[]:=bv (by simpa using iC.1)
   obtain⟨v',O,eM,r1,r2,_⟩:=run_append_own_at (P:=P) w (w:Nat) t ty e i z size bytes aep.und hi hz hs hb aep.zs aep.pos (Y none 0 0) 0 [] (World.ownsRow_nil w _ e size) ad m c news hr.1 hc I OU fC (bh _);exact⟨v',O,eM,fin v' O r1 r2⟩
  ·by_cases sT:n+m<=cap
   ·have ko:cur.size=cap*size:=by
     rcases jo with h|⟨h,_⟩
     ·exact h
     ·omega
    have tL:n*i.size+news.length<=cur.size:=by rw[hs,hr.1,ko,<-Nat.add_mul];exact cK _ sT
    have hrr:=run_append_room (P:=P) w t ty e i aep.und hi g n cap cur H ad m c news (by rw[hs];exact hr.1) hc I sT tL
    rw[hs] at hrr tL
    have fp:(xs++news).length=(n+m)*size:=by rw[bd,iC.1,hr.1,Nat.add_mul]
    have qH:=setRow_heap w g cur (cur.toList.take (n*size)++news++cur.toList.drop (n*size+news.length)).toArray e (0,0) H
    have WI:(cur.toList.take (n*size)++news++cur.toList.drop (n*size+news.length)).toArray.size=cap*size:=by simp only[cE,bd,bn,bU,ch];omega
    refine⟨_,_,hrr,⟨fp,.inr ⟨g,cap,_,rfl,.inl hV,qH,sT,jg,.inl WI,?_⟩⟩,⟨rfl,rfl,rfl,by simp,λk _ K=>setRow_other w g k _ (λe=>K (by rw[e];exact hV))⟩,⟨iC.1,.inr ⟨g,cap,_,rfl,hV,qH,jf,jg,.inl WI,?_⟩⟩⟩
    ·rw[List.toList_toArray,jA,<-fp]
     exact List.take_left
    ·rw[List.toList_toArray,jA,bp,<-iC.1]
     exact List.take_left
   ·obtain⟨A',c',hv,sE,_,_⟩:=iC.reads
    have holds:∀j u,xs[j]?=some u->w.cell? (((g,0):dG).add j)=some u:=by
     intro j u hu;have fM:0<n:=by
      rcases cn n with h0|h0
      ·have:xs.length=0:=by rw[iC.1,h0];simp
       rw[bv this] at hu;simp at hu
      ·exact h0
     obtain⟨ad',e',_,hc'⟩:=sE.2 fM;injection hv with hv;rw[<-hv] at e';injection e' with e';rw[e'];exact hc' j u hu
    obtain⟨v',O,eM,r1,r2⟩:=run_append_arg_grows (P:=P) w t ty e i z size bytes aep.und hi hz hs hb aep.zs aep.pos (g,0) n cap xs iC.1 holds ad m c news hr.1 hc ap OU fC;exact⟨v',O,eM,fin v' O r1 r2⟩
end
section
variable{A:Nat->List Nat}{aer:Nat->Kind}{S:fx}{l:List dJ}{aev:List (Tmp×E)}{F:List (Nat×E×Fact)}
end
def Own.grows{e size:Nat}(h:Own w V e size v n xs)(H:Grow w O):Own O V e size v n xs:=by
 refine⟨h.1,?_⟩;rcases h.2 with Z|⟨g,cap,cur,I,Z,T,h4⟩
 ·exact .inl Z
 ·exact .inr ⟨g,cap,cur,I,Z,(H.block g (Array.getElem?_eq_some_iff.1 T).1).trans T,h4⟩
def u4{S:fx}{φ:Fact}{r:Result Next}(t:Nat)(hm:iu j S.muts 0=some t)(h:eJ P (λu O=>S.aeq k w O∧S.aej (k+1) O∧φ (k+1) u O) r):eJ P (λu O=>S.behind j k w O∧φ (S.next j k) u O) r:=tZ h λ_ _ ⟨H,hi,hp⟩=>⟨wK t hm H hi,by rw[MC t hm];exact hp⟩
def C1(V:aV)(e size:Nat)(v:E)(n:Nat)(xs:List E)(m1:Nat)(st:List (Nat×Nat)):fx where
 aeo:=dP V
 aeq:=λ_=>dP V
 aej:=λ_ w=>Own w V e size v n xs
 muts:=[m1]
 stage:=λj=>if j=m1 then some 0 else st.lookup j
def Ph{e size:Nat}:(C1 V e size v n xs m1 st).Ok:=⟨λ_ _ _=>dP.trans,λ_ _ h=>dP.dR h,λ_ _ _ h=>h,λ_ _ _ h H=>h.grows H⟩
def Once(φ:E->G->Prop):Fact:=λk u w=>match k with
 | 0=>False
 | _=>φ u w
def I4(φ:E->G->Prop):Fact:=λk u w=>match k with
 | 0=>φ u w
 | _=>True
theorem IK{e size:Nat}(h:jV φ):p9 (C1 V e size v n xs m1 st) (Once φ):=λk u w O hu=>by
 cases k with
 | zero=>exact hu.elim
 | succ k=>exact⟨λH=>h u w O hu H,λK=>by simp[C1] at K⟩
theorem Fa{e size:Nat}(h:jV φ):p9 (C1 V e size v n xs m1 st) (I4 φ):=λk u w O hu=>by
 cases k with
 | zero=>exact⟨λH=>h u w O hu H,λ_ _=>trivial⟩
 | succ k=>exact⟨λ_=>trivial,λ_ _=>trivial⟩
theorem Pj(h:φ u w):I4 φ k u w:=by
 cases k with
 | zero=>exact h
 | succ k=>exact trivial
def yz(w:G)(cs:aP)(e n:Nat)(l:aT)(h:cs.size=n*1)(hc:cs.toList=lg l)(hn:n<=dL):dX l (Y (some ⟨(w:Nat),0,none⟩) n n) (w.alloc (.cells cs e)):=⟨_,n,n,rfl,by have:=fO w cs e (0,0) h _ rfl;rw[hc] at this;exact Reads.more this (by simp),bh _,hn⟩
def In(w:G)(V:aV)(size:Nat)(A:aU)(n:Nat)(xs:List E):Prop:=xs.length=n*size∧(0<n->∃ad,A=some ad∧V ad.block∧ad.block<(w:Nat)∧∀j u,xs[j]?=some u->w.cell? (ad.add j)=some u)
section
variable{size:Nat}
def In.nil:In w V size A 0 []:=⟨by simp,λh=>absurd h ap⟩
def In.mono(h:In w V size A n xs)(hV:∀b,V b->V' b):In w V' size A n xs:=⟨h.1,λhn=>by obtain⟨ad,e,hv,hb,hc⟩:=h.2 hn;exact⟨ad,e,hV _ hv,hb,hc⟩⟩
def In.keep(h:In w V size A n xs)(K:∀b,V b->b<(w:Nat)->O.heap[b]?=w.heap[b]?):In O V size A n xs:=
 ⟨h.1,λhn=>by
  obtain⟨ad,e,hv,hb,hc⟩:=h.2 hn;have hs:ad.block<(O:Nat):=by have I:=K _ hv hb;rw[Array.getElem?_eq_getElem hb] at I;exact (Array.getElem?_eq_some_iff.1 I).1
  exact⟨ad,e,hv,hs,λj u hu=>by rw[World.cell?_of_block (a:=ad.add j) (w:=w) (by rw[block_add];exact K _ hv hb)];exact hc j u hu⟩⟩
def In.grow(h:In w V size A n xs)(H:Grow w O):In O V size A n xs:=h.keep λb _ hb=>H.block b hb
def In.just(h:In w V size A n xs)(hj:dP U w O)(hd:∀b,V b->¬ U b):In O V size A n xs:=h.keep λb hv hb=>hj.block b hb (hd b hv)
def In.reads(h:In w V size A n xs):Reads w (w:Nat) size A n xs:=⟨h.1,λhn=>by obtain⟨ad,e,_,hb,hc⟩:=h.2 hn;exact⟨ad,e,hb,hc⟩⟩
def Reads.kB{B:Nat}(h:Reads w B size A n xs)(hB:B<=(w:Nat))(hV:∀b,b<B->V b):In w V size A n xs:=⟨h.1,λhn=>by obtain⟨ad,e,hb,hc⟩:=h.2 hn;exact⟨ad,e,hV _ hb,by omega,hc⟩⟩
def Own.kB{e:dH}{v:E}(h:Own w V e size v n xs):∃A c,v=Y A n c∧In w V size A n xs∧n<=c∧c<=dL:=by
 rcases h.2 with ⟨rfl,rfl⟩|⟨g,cap,cur,rfl,hV,H,hn,hm,_,_⟩
 ·exact⟨none,0,rfl,⟨h.1,λhh=>absurd hh ap⟩,bh _,bo _⟩
 ·obtain⟨A,c,e1,W,_,_⟩:=h.reads
  injection e1 with e1 e2 e3;subst e1 e3;refine⟨_,_,rfl,⟨h.1,λhh=>?_⟩,hn,hm⟩;obtain⟨ad,e,hb,hc⟩:=W.2 hh;injection e with e;subst e;exact⟨_,rfl,hV,hb,hc⟩
theorem In.take(h:In w V size A n xs){k:Nat}(K:k<=n):In w V size A k (xs.take (k*size)):=by
 refine⟨by rw[bn,h.1];exact cF (cK _ K),λhn=>?_⟩;obtain⟨ad,rfl,hv,hb,iT⟩:=h.2 ap;refine⟨ad,rfl,hv,hb,λj u hu=>iT j u ?_⟩;rw[List.getElem?_take] at hu;split at hu;·exact hu
 ·cases hu
def In.ni{α:Type}{cells:α->List E}{q:List α}(h:In w V size A n (q.flatMap cells))(BM:0<size)(hl:∀a,(cells a).length=size)(K:k<n):∃(ad:dG)(hq:k<q.length),A=some ad∧V ad.block∧ad.block<(w:Nat)∧
   (∀u,(cells q[k])[0]?=some u->w.cell? (ad.add (k*size))=some u)∧∀j u,(cells q[k])[j+1]?=some u->w.cell? ⟨(ad.add (k*size)).block,(ad.add (k*size)).off+(j+1),none⟩=some u:=by
 obtain⟨ad,e,hv,hb,hc⟩:=h.2 ap
 have iH:q.length=n:=by have:=h.1;rw[jL cells size hl] at this;exact Nat.eq_of_mul_eq_mul_right BM this
 have I2:k<q.length:=by omega
 have hp:∀j,(⟨(ad.add (k*size)).block,(ad.add (k*size)).off+(j+1),none⟩:dG)=ad.add (k*size+(j+1)):=λj=>by rw[<-add_add];generalize ad.add (k*size)=p;unfold Addr.add;rw[aB ap]
 have fM:∀j u,(cells q[k])[j]?=some u->j<size:=λj u hu=>by have:=(List.getElem?_eq_some_iff.1 hu).1;rw[hl] at this;exact this
 exact⟨ad,I2,e,hv,hb,λu hu=>hc (k*size) u ((flat_get cells size hl q k 0 I2 BM).trans hu),λj u hu=>by rw[hp j];exact hc _ u ((flat_get cells size hl q k (j+1) I2 (fM _ _ hu)).trans hu)⟩
end
def fy(w:G)(o:Obj):(w.alloc o).heap.size=(w:Nat)+1:=by simp
theorem kV{α β:Type}(f:α->List β)(m:Nat)(hf:∀a,(f a).length=m):∀(q:List α)(k:Nat),(q.flatMap f).take (k*m)=(q.take k).flatMap f
 | q,0=>by simp
 | [],k+1=>by simp
 | a::q,k+1=>by
   rw[bN,cD,bN,List.take_append,hf a,Nat.succ_mul,bH (by rw[hf];omega),show k*m+m-m=k*m by omega,kV f m hf q k]
theorem pc{α β:Type}(f:α->List β)(m:Nat)(hf:∀a,(f a).length=m):∀(q:List α)(k:Nat),(q.flatMap f).drop (k*m)=(q.drop k).flatMap f
 | q,0=>by simp
 | [],k+1=>by simp
 | a::q,k+1=>by
   rw[bN,cJ,List.drop_append,hf a,Nat.succ_mul,cB (by rw[hf];omega),show k*m+m-m=k*m by omega,pc f m hf q k,cC]
def Row(w:G)(V:aV)(e:dH)(size:Nat)(v:E)(n:Nat)(xs:List E):Prop:=
 xs.length=n*size∧((v=Y none 0 0∧n=0)∨
  ∃g cap cur,v=Y (some ⟨g,0,none⟩) n cap∧V g∧w.heap[g]?=some (.cells cur e (0,0))∧n<=cap∧cap<=dL∧cur.size=cap*size∧cur.toList.take (n*size)=xs)
section
variable{size:Nat}
def Row.own(h:Row w V e size v n xs):Own w V e size v n xs:=by
 refine⟨h.1,?_⟩;rcases h.2 with Z|⟨g,cap,cur,I,Z,T,h4,h5,h6,h7⟩
 ·exact .inl Z
 ·exact .inr ⟨g,cap,cur,I,Z,T,h4,h5,.inl h6,h7⟩
def Row.owns(h:Row w V e size v n xs):w.ownsRow 0 e size v n xs∧∀g,v.ownBlock=some g->V g:=by
 rcases h.2 with Z|⟨g,cap,cur,I,Z,T,h4,h5,h6,h7⟩
 ·refine⟨⟨h.1,.inl Z⟩,λg H=>?_⟩
  rw[Z.1] at H;cases H
 ·refine⟨⟨h.1,.inr ⟨g,cap,cur,I,bo _,T,h4,h5,h6,h7⟩⟩,λg' H=>?_⟩
  rw[I] at H;injection H with H;rw[<-H];exact Z
def Row.of(h:w.ownsRow 0 e size v n xs)(hV:∀g,v.ownBlock=some g->V g):Row w V e size v n xs:=by
 refine⟨h.1,?_⟩;rcases h.2 with Z|⟨g,cap,cur,I,_,T⟩
 ·exact .inl Z
 ·exact .inr ⟨g,cap,cur,I,hV g (by rw[I];rfl),T⟩
def Row.nil:Row w V e size (Y none 0 0) 0 []:=⟨by simp,.inl ⟨rfl,rfl⟩⟩
def Row.mono(h:Row w V e size v n xs)(hV:∀b,V b->V' b):Row w V' e size v n xs:=by
 refine⟨h.1,?_⟩;rcases h.2 with Z|⟨g,cap,cur,I,Z,T⟩
 ·exact .inl Z
 ·exact .inr ⟨g,cap,cur,I,hV g Z,T⟩
def Row.keep(h:Row w V e size v n xs)(K:∀b,V b->b<(w:Nat)->O.heap[b]?=w.heap[b]?):Row O V e size v n xs:=by
 refine⟨h.1,?_⟩;rcases h.2 with Z|⟨g,cap,cur,I,Z,T,h4⟩
 ·exact .inl Z
 ·exact .inr ⟨g,cap,cur,I,Z,(K g Z (Array.getElem?_eq_some_iff.1 T).1).trans T,h4⟩
def Row.grow(h:Row w V e size v n xs)(H:Grow w O):Row O V e size v n xs:=h.keep λb _ hb=>H.block b hb
def Row.just(h:Row w V e size v n xs)(hj:dP U w O)(hd:∀b,V b->¬ U b):Row O V e size v n xs:=h.keep λb hv hb=>hj.block b hb (hd b hv)
theorem Row.kB(h:Row w V e size v n xs):∃A c,v=Y A n c∧In w V size A n xs∧n<=c∧c<=dL:=h.own.kB
end
theorem iU(b:Nat)(e:dH)(mk:Nat×Nat):∀(vs:List E)(o:Nat)(w:G)(cur:aP),w.heap[b]?=some (.cells cur e mk)->o+vs.length<=cur.size->
 ∃cur',(w.setCells b o vs).heap[b]?=some (.cells cur' e mk)∧cur'.size=cur.size∧cur'.toList=cur.toList.take o++vs++cur.toList.drop (o+vs.length)
 | [],o,w,cur,h,hl=>⟨cur,h,rfl,by simp⟩
 | v::r,o,w,cur,h,hl=>by
   have I:(w.setCell ⟨b,o,none⟩ v).heap[b]?=some (.cells (cur.setIfInBounds o v) e mk):=by simp[World.setCell,Array.getElem?_modify,h]
   simp only[bC] at hl;obtain⟨cur',Z,T,h4⟩:=iU b e mk r (o+1) (w.setCell ⟨b,o,none⟩ v) (cur.setIfInBounds o v) I (by simp;omega);refine⟨cur',Z,by rw[T];simp,?_⟩;rw[h4];have e1:(cur.setIfInBounds o v).toList=cur.toList.take o++v::cur.toList.drop (o+1):=by rw[Array.toList_setIfInBounds,List.set_eq_take_append_cons_drop];rw[aA (by simp;omega)]
   have Is:(cur.toList.take o).length=o:=by rw[bn];simp;omega
   rw[e1,List.take_append,List.drop_append,Is];rw[bH (l:=cur.toList.take o) ap,cB (l:=cur.toList.take o) ap,show o+1-o=1 by omega,show o+1+r.length-o=r.length+1 by omega];simp only[cD,List.take_zero,cJ,List.drop_drop,cC,bp,cH,bC];rw[show o+1+r.length=o+(r.length+1) by omega]
theorem i5(b:Nat):∀(vs:List E)(o:Nat)(w:G),fX b w (w.setCells b o vs)
 | [],_,w=>fX.refl b w
 | v::r,o,w=>((fX.refl b w).put o v).trans (i5 b r (o+1) _)
theorem setCells_size(b:Nat):∀(vs:List E)(o:Nat)(w:G),(w.setCells b o vs).heap.size=(w:Nat)
 | [],_,_=>rfl
 | v::r,o,w=>(setCells_size b r (o+1) _).trans (gV w _ v)
section
variable{size:Nat}
def kH(aep:Elem P t e size bytes z)(hv:∀w,(zeroValue e).run P w=.ok z w)(I:∀u∈z.cells.toList,u.oneCell'=true)(w:G)(ty:dH)(b o n c:Nat)(hn:0<n)
 (hc:∀j,j<n*size->(w.cell? ⟨b,o+j,none⟩).isSome=true) (hf:∀j,j<n*size->w.frozen? ⟨b,o+j,none⟩=false):(Builtin.clear_ #[t] ty #[Y (some ⟨b,o,none⟩) n c]).run P w=.ok (a_ #[]) (w.setCells b o (bQ z.cells n).toList):=by
 have hl:(bQ z.cells n).toList.length=n*size:=by rw[ch,size_zeroCells,aep.zs]
 have kc:=run_storeCells_cells (P:=P) b o (bQ z.cells n).toList 0 w (by rw[hl];simpa using hc) (by rw[hl];simpa using hf) (λv hv'=>by
  have:v∈bQ z.cells n:=Array.mem_toList_iff.1 hv';unfold bQ at this;obtain⟨i,_,rfl⟩:=Array.mem_map.1 this;have hz:0<z.cells.size:=by rw[aep.zs];exact aep.pos
  refine I _ ?_;rw[getElem!_pos z.cells (i % z.cells.size) (Nat.mod_lt _ hz)];exact Array.mem_toList_iff.2 (Array.getElem_mem _))
 simp only[Nat.add_zero] at kc;obtain⟨m,rfl⟩:∃m,n=m+1:=⟨n-1,by omega⟩;simp[Builtin.clear_,run_underlying aep.und,hv,kc]
def nM(aep:Elem P t e size bytes z)(w:G)(ty:Nat)(v:E)(n:Nat)(xs:List E)(iC:Row w V e size v n xs)
 (B:Nat) (A:aU) (m c:Nat) (news:List E) (hr:Reads w B size A m news) (I:∀u∈news,u.oneCell'=true) (fC:(n+m)*bytes<=140737488355328):∃v' O,(cA #[t,t] ty #[v,Y A m c]).run P w=.ok v' O∧Row O (ju V w O) e size v' (n+m) (xs++news)∧dP V w O:=by
 obtain⟨ho,hV⟩:=iC.owns;obtain⟨v',O,eM,Z,T,h4⟩:=oZ aep w 0 ty v n xs ho B A m c news hr I fC (bo _);refine⟨v',O,eM,.of Z λg H=>?_,⟨T.os,T.tape,T.output,T.size,λk K hv=>T.block k K (λe=>hv (hV k e.symm))⟩⟩;rcases h4 with h4|h4
 ·exact .inl (hV g (by rw[<-h4,H]))
 ·rw[H] at h4;injection h4 with h4
  have:=Z.lt g H;exact .inr ⟨by omega,this.2⟩
def yA(aep:Elem P t e size bytes z)(w:G)(hw:bz o (yielded ops a.tmps)=true)(s x:Operand)
 (ho:o.op=.call { callee := .builtin .append,args:=#[s,x],argTypes:=#[t,t] })
 (v:E) (n:Nat) (xs:List E) (hs:a.eval s=v) (iC:Row w V e size v n xs)
 (B:Nat) (A:aU) (m c:Nat) (news:List E) (X:a.eval x=Y A m c) (hr:Reads w B size A m news) (I:∀u∈news,u.oneCell'=true)
 (fC:(n+m)*bytes<=140737488355328)
 (h:∀v' O,Row O (ju V w O) e size v' (n+m) (xs++news)->dP V w O->wpList P ops aes rest (a.put o.dst v') O):wpList P ops aes (o::rest) a w:=by obtain⟨v',O,eM,Z,T⟩:=nM aep w o.type v n xs iC B A m c news hr I fC;unfold wpList;rw[aA hw];refine .inl ?_;unfold Oper.wp execOp;simp only[ho,resolve,invoke,builtin,Sem.run_bind,Sem.run_pure,Result.andThen_ok,cZ,bX,cS,hs,X,eM];exact h v' O Z T
def qp(aep:Elem P t e size bytes z){s:Operand}(ho:o.op=.call { callee := .builtin .append,args:=#[s,x],argTypes:=#[t,t] })
 {v:E} {n:Nat} {xs:List E} (hs:ρ s=v) (iC:Row w V e size v n xs) {B:Nat} {A:aU} {m c:Nat} {news:List E} (X:ρ x=Y A m c) (hr:Reads w B size A m news) (I:∀u∈news,u.oneCell'=true)
 (fC:(n+m)*bytes<=140737488355328) (h:∀v' O,Row O (ju V w O) e size v' (n+m) (xs++news)->dP V w O->R v' O):eJ P R ((execOp ρ o).run P w):=by obtain⟨v',O,eM,Z,T⟩:=nM aep w o.type v n xs iC B A m c news hr I fC;refine gC (u:=v') (w:=O) ?_ (h v' O Z T);unfold execOp;simp only[ho,resolve,invoke,builtin,Sem.run_bind,Sem.run_pure,Result.andThen_ok,cZ,bX,cS,hs,X,eM]
end
section
variable{size:Nat}
def Reads.Y7(aep:Elem P t e size bytes z)(hr:Reads w B size A m news)(I:∀u∈news,u.oneCell'=true):Src P size t (Y A m c) m news w:=by
 by_cases hm:m=0
 ·have:=hr.src (c:=c) aep hm
  subst hm;obtain rfl:news=[]:=bv (by simpa using hr.1);exact this
 ·obtain⟨ad,rfl,_,hc⟩:=hr.2 ap
  exact Src.ofSlice w aep.und ad m c news hr.1 hc I
def qt(aep:Elem P t e size bytes z)(w:G)(ty:Nat){c2:Nat}{cur:aP}(H:w.heap[g]?=some (.cells cur e (0,0)))(hr:Reads w B size A m news)(I:∀u∈news,u.oneCell'=true)
 (sT:k+m<=c) (hs:(k+m)*size<=cur.size):(cA #[t,t] ty #[Y (some (g,0)) k c,Y A m c2]).run P w=.ok (Y (some (g,0)) (k+m) c) (w.setCells g (k*size) news):=by
 obtain⟨i,hi,_,jo,_⟩:=aep.info;have BL:Src P i.size t (Y A m c2) m news w:=by rw[jo];exact hr.Y7 aep I
 have hl:=hr.1;have ng:k*size+m*size<=cur.size:=by rw[<-Nat.add_mul];exact hs
 have:=run_append_room_src (P:=P) w t t ty e i aep.und hi g 0 k c (Y A m c2) m news BL sT (λj hj=>by rw[cell_of_row w g _ cur e (0,0) H,jo,Array.getElem?_eq_getElem ap];rfl) (λj hj=>eL.frozen (show eL w g e cur from H) _)
 rw[jo,cL] at this;exact this
def u6(aep:Elem P t e size bytes z)(w:G):(zeroValue e).run P w=.ok z w:=by obtain⟨i,hi,hz,_,_⟩:=aep.info;simp[zeroValue,typeInfo,hi,hz]
def qT(hw:bz o (yielded ops a.tmps)=true)(s x:Operand){tx:dH}
 (ho:o.op=.call { callee := .builtin .append,args:=#[s,x],argTypes:=#[t,tx] }) {vs vx v':E} {O:G} (hs:a.eval s=vs) (X:a.eval x=vx)
 (eM:(cA #[t,tx] o.type #[vs,vx]).run P w=.ok v' O) (h:wpList P ops aes rest (a.put o.dst v') O):wpList P ops aes (o::rest) a w:=by unfold wpList;rw[aA hw];refine .inl ?_;unfold Oper.wp execOp;simp only[ho,resolve,invoke,builtin,Sem.run_bind,Sem.run_pure,Result.andThen_ok,cZ,bX,cS,hs,X,eM];exact h
end
def sL{r:Result Next}(hr:r=.ok .skip O)(h:R undef O):eJ P R r:=by rw[hr];exact h
def mh(w:G)(x i:Nat)(u:E):dP (λb=>b=x) w (w.setCell ⟨x,i,none⟩ u):=(dP.dR (Grow.refl w)).put (V:=λb=>b=x) rfl i u
section
variable{size:Nat}
end
def New(w O:G)(b:Nat):Prop:=(w:Nat)<=b∧b<(O:Nat)
def oc{size:Nat}(hO:Own w1 (ju (λb=>b=(w:Nat)) (w.alloc (.cells #[] t)) w1) e size v n xs)(hj:dP (λb=>b=(w:Nat)) (w.alloc (.cells #[] t)) w1):Own w1 (New w w1) e size v n xs∧Grow w w1:=by
 have hs:(w:Nat)<(w1:Nat):=by have:=hj.size;simp at this;omega
 refine⟨hO.mono (λb hb=>?_),((Below.refl (w:Nat) w).alloc (bh _) (.cells #[] t)).trans (hj.below (B:=(w:Nat)) (λb hb=>by rw[hb];exact bh _) (by simp))⟩;rcases hb with rfl|⟨I,Z⟩
 ·exact⟨bh _,hs⟩
 ·simp at I;exact⟨by omega,Z⟩
def mn(w:G)(e:dH)(size:Nat):Own (w.alloc (.cells #[] e)) (λb=>b=(w:Nat)) e size (Y (some ⟨(w:Nat),0,none⟩) 0 0) 0 []:=⟨by simp,.inr ⟨(w:Nat),0,#[],rfl,rfl,heap_alloc_new w _,bh _,bo _,.inl (by simp),by simp⟩⟩
section
variable{P aes:aV}{S S' R:ei}
def Solo.turn(h:Solo P S w)(L:∀V,S w V->S' w V):Solo P S' w:=by obtain⟨h0,V,I,Z⟩:=h;exact⟨h0,V,L V I,Z⟩
end
def Dm(R:aV)(I0:G->Prop)(m1:Nat)(st:List (Nat×Nat)):fx where
 aeo:=dP R
 aeq:=λ_=>dP R
 aej := λk w=>match k with
   | 0=>I0 w
   | _=>True
 muts:=[m1]
 stage:=λj=>if j=m1 then some 0 else st.lookup j
def appRow_ok{R:aV}(hI:∀a b,I0 a->Grow a b->I0 b):(Dm R I0 m1 st).Ok:=by
 refine⟨λ_ _ _=>dP.trans,λ_ _ h=>dP.dR h,λ_ _ _ h=>h,λk a b h H=>?_⟩;rcases k with _|k
 ·exact hI a b h H
 ·exact trivial
def Pk(B:Nat)(φ:E->G->Prop):Prop:=∀u w O,φ u w->dP (λb=>b<B) w O->φ u O
def lasts_row{R:aV}(AX:∀x,R x->x<B)(h:Pk B φ):p9 (Dm R I0 m1 st) (λ_ u w=>φ u w):=λ_ u w O hu=>
 ⟨λH=>h u w O hu (dP.dR H),λ_ ht=>h u w O hu (dP.imp ht AX)⟩
def lasts_row_once{R:aV}(h:jV φ):p9 (Dm R I0 m1 st) (Once φ):=λk u w O hu=>by
 rcases k with _|k
 ·exact hu.elim
 ·exact⟨λH=>h u w O hu H,λK=>by simp[Dm] at K⟩
section
variable{α:Type}(e:dH)(size:Nat)(cells:α->List E)(good:G->(Nat->Prop)->α->Prop)
def Y8(B:Nat)(aem:α->Prop)(u:E)(w:G):Prop:=∃(b:α)(aen:Nat),aem b∧u=aZ (cells b).toArray∧good w (λx=>B<=x∧x<aen) b∧aen<=(w:Nat)
def Y9(B:Nat)(aem:α->Prop)(u:E)(w:G):Prop:=∃(b:α)(aen:Nat)(A:aU),aem b∧u=Y A 1 1∧In w (λx=>B<=x) size A 1 (cells b)∧good w (λx=>B<=x∧x<aen) b∧aen<=(w:Nat)
def TV(R:aV)(B:Nat)(q:List α)(aem:α->Prop)(u:E)(w:G):Prop:=∃(b:α)(R' D':aV),aem b∧Row w R' e size u (q.length+1) ((q++[b]).flatMap cells)∧good w D' b∧(∀x,R' x->(R x∨B<=x)∧x<(w:Nat)∧¬ D' x)∧(∀x,D' x->B<=x∧x<(w:Nat))
variable{e size cells good}
variable{R:aV}{q:List α}{aem:α->Prop}
def iY(good:G->(Nat->Prop)->α->Prop):Prop:=∀(w O:G)(D U:aV)(a:α),good w D a->dP U w O->(∀b,D b->¬ U b)->good O D a
def ME(hG:iY good)(h:TV e size cells good R B q aem u w)(hj:dP U w O)(hd:∀x,x<(w:Nat)->(R x∨B<=x)->¬ U x):TV e size cells good R B q aem u O:=by obtain⟨b,R',D',I,T,h4,h5,h6⟩:=h;exact⟨b,R',D',I,T.just hj λx X=>hd x (h5 x X).2.1 (h5 x X).1,hG _ _ _ _ _ h4 hj λx X=>hd x (h6 x X).2 (.inr (h6 x X).1),λx X=>⟨(h5 x X).1,bu (h5 x X).2.1 hj.size,(h5 x X).2.2⟩,λx X=>⟨(h6 x X).1,bu (h6 x X).2 hj.size⟩⟩
def finG_lasting(hG:iY good):jV (TV e size cells good R B q aem):=λ_ _ _ h H=>ME hG h (U:=λ_=>False) (dP.dR H) λ_ _ _ h=>h
def newG_past(hG:iY good):Pk B (Y8 cells good B aem):=λu w O hu hj=>by obtain⟨b,aen,I,Z,T,h4⟩:=hu;exact⟨b,aen,I,Z,hG _ _ _ _ _ T hj λx X h=>Nat.lt_irrefl _ (bu h X.1),bA h4 hj.size⟩
def rowG_past(hG:iY good):Pk B (Y9 size cells good B aem):=λu w O hu hj=>by obtain⟨b,aen,A,I,Z,T,h4,h5⟩:=hu;exact⟨b,aen,A,I,Z,T.just hj λx X h=>Nat.lt_irrefl _ (bu h X),hG _ _ _ _ _ h4 hj λx X h=>Nat.lt_irrefl _ (bu h X.1),bA h5 hj.size⟩
def MF(hG:iY good)(hl:∀b,(cells b).length=size)(h:Y8 cells good B aem u w)(hs:B<=(w:Nat))
 (eM:∀b:α,u=aZ (cells b).toArray->(execOp ρ o).run P w=.ok (.value (Y (some ⟨(w:Nat),0,none⟩) 1 1)) (w.alloc (.cells (cells b).toArray e))):eJ P (λv O=>Grow w O∧Y9 size cells good B aem v O) ((execOp ρ o).run P w):=by obtain⟨b,aen,e1,e2,hb,hH⟩:=h;have H:Grow w (w.alloc (.cells (cells b).toArray e)):=(Below.refl _ w).alloc (bh _) _;refine gC (eM b e2) ⟨H,b,aen,some ⟨(w:Nat),0,none⟩,e1,rfl,?_,hG _ _ _ _ _ hb (dP.dR (V:=λ_=>False) H) (λ_ _ h=>h),bA hH H.size⟩;obtain⟨T,h4⟩:=fO w (cells b).toArray e (0,0) (n:=1) (size:=size) (by simp[hl]) _ rfl;exact⟨by simp[hl],λhn=>⟨_,rfl,hs,by simp,by obtain⟨ad,e,_,hc⟩:=h4 hn;injection e with e;rw[e];simpa using hc⟩⟩
def Fb(aep:Elem P t e size bytes z)(hG:iY good)(n_:∀b,∀u∈cells b,u.oneCell'=true){y:Operand}(AX:∀x,R x->x<B)
 (h:Row w R e size v q.length (q.flatMap cells)) (hu:Y9 size cells good B aem u w) (Oz:B<=(w:Nat)) (fC:(q.length+1)*bytes<=140737488355328)
 (I:ρ x=v) (Z:ρ y=u) (ho:o.op=.call { callee := .builtin .append,args:=#[x,y],argTypes:=#[t,t] }):eJ P (λv' O=>dP R w O∧TV e size cells good R B q aem v' O) ((execOp ρ o).run P w):=by
 obtain⟨b,aen,A,e1,rfl,hI,hb,hH⟩:=hu;refine qp aep ho I h Z hI.reads (n_ b) fC λv' O W hj=>⟨hj,b,ju R w O,λx=>B<=x∧x<aen,e1,?_,hG _ _ _ _ _ hb hj λx X hr=>?_,λx X=>?_,λx X=>⟨X.1,bu X.2 (bA hH hj.size)⟩⟩;·rw[bO,bN,cI,bm];exact W
 ·exact Nat.lt_irrefl _ (bu (AX x hr) X.1)
 ·rcases X with X|X
  ·have:=AX x X
   exact⟨.inl X,by have:=hj.size;omega,λhd=>by have T:B<=x:=hd.1;omega⟩
  ·exact⟨.inr (by have:=X.1;omega),X.2,λhd=>by have:=X.1;have T:x<aen:=hd.2;omega⟩
end
def C2(size n:Nat)(xs:List E)(u:E)(w:G):Prop:=∃(A:aU)(c:Nat),u=Y A n c∧Reads w (w:Nat) size A n xs
def Bb(size n:Nat)(xs:List E):jV (C2 size n xs):=λ_ _ _ ⟨A,c,e,h⟩ H=>⟨A,c,e,(Reads.below h H).more H.size⟩
section
variable{size:Nat}
end
def Sep(S R:ei):ei:=λw V=>∃V1 V2:aV,S w V1∧R w V2∧(∀b,V1 b->V b)∧(∀b,V2 b->V b)∧∀b,V1 b->¬ V2 b
def Emp:ei:=λ_ _=>True
def dU:List ei->ei
 | []=>Emp
 | S::l=>Sep S (dU l)
def Cell(x:Nat)(t:dH)(cs:aP):ei:=λw V=>V x∧eL w x t cs
def fb(l:List ei):Prop:=∀S∈l,eQ S
section
variable{S S' R R':ei}{l l':List ei}
def Cell.framed(x:Nat)(t:dH)(cs:aP):eQ (Cell x t cs):=λ_ _ _ h K=>⟨h.1,(K x h.1).trans h.2⟩
def Emp.framed:eQ Emp:=λ_ _ _ _ _=>trivial
def Sep.framed(I:eQ S)(Z:eQ R):eQ (Sep S R):=λw O V ⟨V1,V2,a,b,c,d,e⟩ K=>⟨V1,V2,I w O V1 a λx X=>K x (c x X),Z w O V2 b λx X=>K x (d x X),c,d,e⟩
theorem dU.framed:∀(l:List ei),fb l->eQ (dU l)
 | [],_=>Emp.framed
 | S::l,h=>Sep.framed (h S (by simp)) (dU.framed l λR W=>h R (by simp[W]))
def fb.nil:fb []:=λS h=>by simp at h
def fb.cons(h:eQ S)(hl:fb l):fb (S::l):=λR W=>by
 rcases List.mem_cons.1 W with rfl|W
 ·exact h
 ·exact hl R W
def Sep.wide(h:Sep S R w V)(hV:∀b,V b->V' b):Sep S R w V':=by obtain⟨V1,V2,a,b,c,d,e⟩:=h;exact⟨V1,V2,a,b,λx X=>hV x (c x X),λx X=>hV x (d x X),e⟩
def Sep.swap(h:Sep S R w V):Sep R S w V:=by obtain⟨V1,V2,a,b,c,d,e⟩:=h;exact⟨V2,V1,b,a,d,c,λx Z I=>e x I Z⟩
def Sep.assoc{aes:ei}(h:Sep (Sep S R) aes w V):Sep S (Sep R aes) w V:=by obtain⟨V1,V2,⟨U1,U2,a,b,c,d,e⟩,q,f,g,i⟩:=h;exact⟨U1,λx=>U2 x∨V2 x,a,⟨U2,V2,b,q,λx X => .inl X,λx X => .inr X,λx X=>i x (d x X)⟩,λx X=>f x (c x X),λx X=>X.elim (λX=>f x (d x X)) (g x),λx X hy=>hy.elim (e x X) (i x (c x X))⟩
def Sep.IL{aes:ei}(h:Sep S (Sep R aes) w V):Sep (Sep S R) aes w V:=by have I:=h.swap;have Z:Sep R (Sep aes S) w V:=Sep.assoc I;have T:Sep aes (Sep S R) w V:=Sep.assoc Z.swap;exact T.swap
def Sep.imp(h:Sep S R w V)(L:∀U,S w U->S' w U)(W:∀U,R w U->R' w U):Sep S' R' w V:=by obtain⟨V1,V2,a,b,c,d,e⟩:=h;exact⟨V1,V2,L _ a,W _ b,c,d,e⟩
def Sep.fst(h:Sep S R w V):∃U:aV,S w U∧∀b,U b->V b:=by obtain⟨V1,V2,a,b,c,d,e⟩:=h;exact⟨V1,a,c⟩
def Sep.snd(h:Sep S R w V):∃U:aV,R w U∧∀b,U b->V b:=h.swap.fst
theorem dU.perm(hp:l.Perm l'):∀{V:aV},dU l w V->dU l' w V:=by
 induction hp with
 | nil=>exact λh=>h
 | cons S _ ih=>intro V h;obtain⟨V1,V2,a,b,c,d,e⟩:=h;exact⟨V1,V2,a,ih b,c,d,e⟩
 | swap S R l=>
   intro V h;have I:Sep (Sep R S) (dU l) w V:=Sep.IL h;exact Sep.assoc (I.imp (λU hU=>hU.swap) (λU hU=>hU))
 | trans _ _ ih1 ih2=>exact λh=>ih2 (ih1 h)
theorem dU.app:∀(l:List ei){l':List ei}{V:aV},dU (l++l') w V->Sep (dU l) (dU l') w V
 | [],l',V,h=>⟨λ_=>False,V,trivial,h,λ_ h=>h.elim,λ_ h=>h,λ_ h _=>h⟩
 | S::l,l',V,h=>Sep.IL (S:=S) (R:=dU l) (by
     obtain⟨V1,V2,a,b,c,d,e⟩:=h;exact⟨V1,V2,a,dU.app l b,c,d,e⟩)
theorem dU.flat:∀(l:List ei){l':List ei}{V:aV},Sep (dU l) (dU l') w V->dU (l++l') w V
 | [],l',V,h=>by
   obtain⟨V1,V2,_,b,_,d,_⟩:=h;cases l' with
   | nil=>trivial
   | cons S l'=>exact Sep.wide b d
 | S::l,l',V,h=>by
   obtain⟨V1,V2,a,b,c,d,e⟩:=Sep.assoc (S:=S) (R:=dU l) h;exact⟨V1,V2,a,dU.flat l b,c,d,e⟩
theorem dU.pick:∀(l:List ei)(i:Nat)(S:ei),l[i]?=some S->∀{V:aV},dU l w V->Sep S (dU (l.eraseIdx i)) w V
 | S::l,0,S',h,V,hM=>by cases h;exact hM
 | S::l,i+1,S',h,V,hM=>by
   obtain⟨V1,V2,a,b,c,d,e⟩:=hM;have hp:=dU.pick l i S' (by simpa using h) b;have I:Sep (Sep S' (dU (l.eraseIdx i))) S w V:=⟨V2,V1,hp,a,d,c,λx Z I=>e x I Z⟩;exact (Sep.assoc I).imp (λU hU=>hU) (λU hU=>hU.swap)
theorem dU.yB:∀(l:List ei)(i:Nat)(S S':ei),l[i]?=some S->∀{V:aV},Sep S' (dU (l.eraseIdx i)) w V->dU (l.set i S') w V
 | S::l,0,_,S',_,V,hM=>hM
 | S::l,i+1,S0,S',h,V,hM=>by
   have I:Sep S' (Sep S (dU (l.eraseIdx i))) w V:=hM;have Z:Sep S (Sep S' (dU (l.eraseIdx i))) w V:=Sep.assoc ((Sep.IL I).imp (λU hU=>hU.swap) (λU hU=>hU));exact Z.imp (λU hU=>hU) (λU hU=>dU.yB l i S0 S' (by simpa using h) hU)
end
section
variable{f:FuncId}{C:Ending->Prop}{S S' R R':ei}{l l':List ei}{P:aV}
def IM(h:Sep S R w V)(W:eQ R)(hV:∀b,V b->b<(w:Nat))(hc:∀U:aV,S w U->(∀b,U b->b<(w:Nat))->(∀b,U b->V b)->dF Pr f args w λe O=>C e∧S' O (ju U w O)∧dP U w O):dF Pr f args w λe O=>C e∧Sep S' R O (ju V w O)∧dP V w O:=by
 obtain⟨V1,V2,a,b,c,d,e⟩:=h;refine (hc V1 a (λx X=>hV x (c x X)) c).mono λen O ⟨he,hs,hj⟩=>⟨he,⟨ju V1 w O,V2,hs,W w O V2 b λx X=>hj.block x (hV x (d x X)) (λI=>e x I X),λx X=>?_,λx X => .inl (d x X),λx X Z=>?_⟩,hj.imp λx X=>c x X⟩
 ·rcases X with X|X
  ·exact .inl (c x X)
  ·exact .inr X
 ·rcases X with X|X
  ·exact e x X Z
  ·have:=hV x (d x Z);have:=X.1;omega
def Solo.see(i:Nat)(hi:l[i]?=some S)(h:Solo P (dU l) w):∃U:aV,S w U∧∀b,U b->P b∧b<(w:Nat):=by obtain⟨_,V,hM,hV⟩:=h;obtain⟨U,hU,hs⟩:=(dU.pick l i S hi hM).fst;exact⟨U,hU,λb hb=>hV b (hs b hb)⟩
def Solo.grows(h:Solo P (dU l) w)(hF:fb l)(H:Grow w O):Solo P (dU l) O:=h.grow (dU.framed l hF) H
def pd(V:aV)(w:G)(b:Nat):Prop:=V b∨(w:Nat)<=b
def Solo.begin_(h:S w V)(hV:∀b,V b->b<(w:Nat)):Solo (pd V w) S w:=⟨λ_ hb => .inr hb,V,h,λb hb=>⟨.inl hb,hV b hb⟩⟩
def Solo.end_(hW:∀(U U':aV),(∀b,U b->U' b)->S O U->S O U')(h:Solo (pd V w) S O)(hj:dP (pd V w) w O)(hV:∀b,V b->b<(w:Nat)):S O (ju V w O)∧dP V w O:=by
 obtain⟨_,U,L,hU⟩:=h;refine⟨hW U _ (λb hb=>?_) L,⟨hj.os,hj.tape,hj.output,hj.size,λb hb hv=>hj.block b hb λhl=>?_⟩⟩
 ·obtain⟨I,Z⟩:=hU b hb
  rcases I with I|I
  ·exact .inl I
  ·exact .inr ⟨I,Z⟩
 ·rcases hl with hl|hl
  ·exact hv hl
  ·omega
def Ya(S:ei):Prop:=∀(w:G)(U U':aV),(∀b,U b->U' b)->S w U->S w U'
theorem dU.wide(l:List ei):Ya (dU l):=λw U U' h hs=>by
 cases l with
 | nil=>trivial
 | cons S l=>exact Sep.wide hs h
def Solo.done(h:Solo (pd V w) (dU l) O)(hj:dP (pd V w) w O)(hV:∀b,V b->b<(w:Nat)):dU l O (ju V w O)∧dP V w O:=h.end_ (λU U' hu=>dU.wide l O U U' hu) hj hV
def Solo.blk{x:Nat}{t:dH}{cs:aP}(i:Nat)(hi:l[i]?=some (Cell x t cs))(h:Solo P (dU l) w):eL w x t cs:=by obtain⟨U,hU,_⟩:=h.see i hi;exact hU.2
def Solo.Yb{x:Nat}(i:Nat)(hi:l[i]?=some (Cell x t cs))(h:Solo P (dU l) w):P x∧x<(w:Nat):=by obtain⟨U,hU,Z⟩:=h.see i hi;exact Z x hU.1
def Solo.turned{x:Nat}{t:dH}{cs cs':aP}(i:Nat)(hi:l[i]?=some (Cell x t cs))(hF:fb l)(h:Solo P (dU l) w)(hj:dP (λb=>b=x) w O)(hB:eL O x t cs'):Solo P (dU (l.set i (Cell x t cs'))) O:=by obtain⟨h0,V,hM,hV⟩:=h;obtain⟨V1,V2,a,b,c,d,e⟩:=dU.pick l i _ hi hM;refine⟨λy hy=>h0 y (bA hj.size hy),V,dU.yB l i (Cell x t cs) _ hi ⟨V1,V2,⟨a.1,hB⟩,?_,c,d,e⟩,λy hy=>⟨(hV y hy).1,bu (hV y hy).2 hj.size⟩⟩;exact dU.framed _ (λR W=>hF R (dz W)) w O V2 b λy hy=>hj.block y (hV y (d y hy)).2 λOX=>e x a.1 (by rw[<-OX];exact hy)
def Solo.puts{x:Nat}(i:Nat)(hi:l[i]?=some (Cell x t cs))(hF:fb l)(h:Solo P (dU l) w)(k:Nat)(u:E):Solo P (dU (l.set i (Cell x t (cs.setIfInBounds k u)))) (w.setCell ⟨x,k,none⟩ u):=h.turned i hi hF (mh w x k u) ((h.blk i hi).put k u)
def Solo.join{R:ei}(h:Solo P (dU l) w)(hF:fb l)(H:Grow w O){U:aV}(W:R O U)(hU:∀b,U b->(w:Nat)<=b∧b<(O:Nat)):Solo P (dU (R::l)) O:=by
 obtain⟨h0,V,hM,hV⟩:=h;refine⟨λb hb=>h0 b (bA H.size hb),λb=>V b∨U b,⟨U,V,W,dU.framed l hF w O V hM λb hb=>H.block b (hV b hb).2,λb hb => .inr hb,λb hb => .inl hb,λb hb hv=>?_⟩,λb hb=>?_⟩;·have:=(hV b hv).2;have:=(hU b hb).1;omega
 ·rcases hb with hb|hb
  ·exact⟨(hV b hb).1,bu (hV b hb).2 H.size⟩
  ·exact⟨h0 b (hU b hb).1,(hU b hb).2⟩
theorem Solo.perm(hp:l.Perm l')(h:Solo P (dU l) w):Solo P (dU l') w:=h.turn λ_ hV=>dU.perm hp hV
def Solo.drop1(h:Solo P (dU (S::l)) w):Solo P (dU l) w:=h.turn λV hV=>by obtain⟨U,hU,hs⟩:=Sep.snd hV;exact dU.wide l w U V hs hU
theorem Solo.flat(h:Solo P (dU (dU l::l')) w):Solo P (dU (l++l')) w:=h.turn λ_ hV=>dU.flat l hV
def Solo.Yc(h:Solo P (dU (l++l')) w):Solo P (dU (dU l::l')) w:=h.turn λ_ hV=>dU.app l hV
end
def eL.kB{w:G}{x:Nat}{t:dH}{cs:aP}(h:eL w x t cs){size n:Nat}(hn:cs.toList.length=n*size):In w (λb=>b=x) size (some (x,0)) n cs.toList:=
 ⟨hn,λ_=>⟨_,rfl,rfl,h.lt,λj u hu=>by
  have I:=h.cell j;have Z:((x,0):dG).add j=⟨x,j,none⟩:=by
   unfold Addr.add;split;·rename_i h;rw[h]
   ·simp
  rw[Z,I,<-Array.getElem?_toList];exact hu⟩⟩
section
variable{f:FuncId}{C:Ending->Prop}{S S' R R':ei}{l l':List ei}{P:aV}
def Solo.atV(i:Nat)(hi:l[i]?=some S)(hF:fb l)(h:Solo P (dU l) w)(hc:∀U:aV,S w U->(∀b,U b->b<(w:Nat))->(∀b,U b->P b)->dF Pr f args w λe O=>C e∧S' O (ju U w O)∧dP U w O):dF Pr f args w λe O=>C e∧dP P w O∧Solo P (dU (l.set i S')) O:=by obtain⟨h0,V,I,h4⟩:=h;refine (IM (dU.pick l i S hi I) (dU.framed _ λR W=>hF R (dz W)) (λb hb=>(h4 b hb).2) λU hU hU2 hU3=>hc U hU hU2 λb hb=>(h4 b (hU3 b hb)).1).mono λe O ⟨a,b,c⟩=>⟨a,c.imp λk K=>(h4 k K).1,λb hb=>h0 b (bA c.size hb),ju V w O,dU.yB l i S S' hi b,Pg h4 h0 c.size⟩
def Solo.TW{φ:G->Prop}(i:Nat)(hi:l[i]?=some S)(hF:fb l)(h:Solo P (dU l) w)(hc:∀U:aV,S w U->(∀b,U b->P b∧b<(w:Nat))->∃O,φ O∧S' O U∧dP U w O):∃O,φ O∧Solo P (dU (l.set i S')) O∧dP P w O:=by obtain⟨h0,V,I,h4⟩:=h;obtain⟨V1,V2,a,b,c,d,e⟩:=dU.pick l i S hi I;obtain⟨O,hp,hs,hj⟩:=hc V1 a λx X=>h4 x (c x X);have W:=dU.framed _ (λR W=>hF R (dz W)) w O V2 b λx X=>hj.block x (h4 x (d x X)).2 λI=>e x I X;exact⟨O,hp,⟨λb hb=>h0 b (bA hj.size hb),V,dU.yB l i S S' hi ⟨V1,V2,hs,W,c,d,e⟩,λb hb=>⟨(h4 b hb).1,bu (h4 b hb).2 hj.size⟩⟩,hj.imp λx X=>(h4 x (c x X)).1⟩
def Solo.Yd(h0:∀b,(w:Nat)<=b->P b)(hM:dU l w V)(hV:∀b,V b->P b∧b<(w:Nat)):Solo P (dU l) w:=⟨h0,V,hM,hV⟩
def Solo.Fc(h0:∀b,(w:Nat)<=b->P b)(hM:dU l w V)(hV:∀b,V b->P b∧b<(w:Nat))(W:R w U)(hU:∀b,U b->P b∧b<(w:Nat)∧¬ V b):Solo P (dU (R::l)) w:=⟨h0,λb=>U b∨V b,⟨U,V,W,hM,λ_ h => .inl h,λ_ h => .inr h,λb I Z=>(hU b I).2.2 Z⟩,λb hb=>hb.elim (λh=>⟨(hU b h).1,(hU b h).2.1⟩) (hV b)⟩
end
structure pe{κ:Type}[DecidableEq κ](P:dI)(kt:dH)(ke:κ->E):Prop where
 check:∀(w:G)(b:Bool)(k:κ),(Instr.checkKey b 10000 kt (ke k)).run P w=.ok () w
 find:∀(w:G)(k:κ)(es:List MapEntry)(i:Nat)(q:List κ),es.map (·.key)=q.map ke->∃r,(Instr.findKey kt (ke k) es).run P w=.ok r w∧((k ∉ q∧r=none)∨∃(j:Nat)(e:MapEntry),es[j]?=some e∧q[j]?=some k∧r=some (j,e.val))
 same:∀k,Instr.sameBits 10000 (ke k) (ke k)=true
def u7(es:Array MapEntry)(c:Nat):Prop:=(es.toList.map (·.born)).Nodup∧∀e∈es.toList,e.born<c
def u7.nil:u7 #[] 0:=⟨by simp,by simp⟩
theorem u7.push{es:Array MapEntry}{c:Nat}(h:u7 es c)(k v:E):u7 (es.push { key:=k,val:=v,born:=c }) (c+1):=by
 refine⟨?_,λe he=>?_⟩
 ·rw[Array.toList_push,bM,List.nodup_append]
  refine⟨h.1,by simp,λa ha b hb=>?_⟩;simp only[bX,cS,List.mem_singleton] at hb;obtain⟨e,he,rfl⟩:=List.mem_map.1 ha;have:=h.2 e he;omega
 ·rw[Array.toList_push] at he
  rcases List.mem_append.1 he with he|he
  ·have:=h.2 e he;omega
  ·rw[List.mem_singleton] at he
   rw[he];exact Nat.lt_succ_self c
theorem u7.modify{es:Array MapEntry}{c:Nat}(h:u7 es c)(j:Nat)(k v:E):u7 (es.modify j λe=>{ e with key:=k,val:=v }) c:=by
 have e1:(es.modify j λe=>{ e with key:=k,val:=v }).toList.map (·.born)=es.toList.map (·.born):=by
  apply List.ext_getElem?;intro i;simp only[List.getElem?_map,Array.getElem?_toList,Array.getElem?_modify];by_cases o7:j=i
  ·rw[aA o7]
   cases es[i]?<;>rfl
  ·rw[aB o7]
 refine⟨by rw[e1];exact h.1,λe he=>?_⟩;have I:e.born∈(es.modify j λe=>{ e with key:=k,val:=v }).toList.map (·.born):=List.mem_map.2 ⟨e,he,rfl⟩;rw[e1] at I;obtain⟨e',he',Z⟩:=List.mem_map.1 I;rw[<-Z];exact h.2 e' he'
def u7.erase{es:Array MapEntry}(h:u7 es c)(hj:j<es.size):u7 (es.eraseIdx j hj) c:=by
 refine⟨?_,λe he=>?_⟩
 ·rw[Array.toList_eraseIdx]
  exact h.1.sublist ((List.eraseIdx_sublist _ j).map _)
 ·rw[Array.toList_eraseIdx] at he
  exact h.2 e (dz he)
def eR{κ:Type}(ke:κ->E)(b:Nat)(q:List (κ×E)):ei:=λw V=>
 V b∧(q.map Prod.fst).Nodup∧∃(es:Array MapEntry)(clock:Nat),w.heap[b]?=some (.map es clock)∧es.toList.map (λe=>(e.key,e.val))=(q.map λp=>(ke p.1,p.2))∧u7 es clock
section
variable{κ:Type}[DecidableEq κ]{ke:κ->E}{q:List (κ×E)}
def vm(q:List (κ×E))(k:κ):Option E:=(q.find? λp=>decide (p.1=k)).map (·.2)
def lN(q:List (κ×E))(k:κ)(v:E):List (κ×E):=if k∈q.map Prod.fst then q.map (λp=>if p.1=k then (k,v) else p) else q++[(k,v)]
def mq(q:List (κ×E))(k:κ):List (κ×E):=q.filter λp=>decide (p.1≠k)
def eR.framed(b:Nat)(q:List (κ×E)):eQ (eR ke b q):=λw O V ⟨I,Z,es,c,T,h4⟩ K=>⟨I,Z,es,c,(K b I).trans T,h4⟩
def eR.made(w:G):eR (κ:=κ) ke (w:Nat) [] (w.alloc (.map #[] 0)) (λb=>b=(w:Nat)):=⟨rfl,by simp,#[],0,heap_alloc_new w _,rfl,u7.nil⟩
theorem ny{α:Type}:∀{l:List α},l.Nodup->∀{i j:Nat}{a:α},l[i]?=some a->l[j]?=some a->i=j
 | [],_,i,j,a,hi,_=>by simp at hi
 | x::l,hn,0,0,a,_,_=>rfl
 | x::l,hn,0,j+1,a,hi,hj=>by
   simp at hi;subst hi;exact absurd (List.mem_of_getElem? (by simpa using hj)) (List.nodup_cons.1 hn).1
 | x::l,hn,i+1,0,a,hi,hj=>by
   simp at hj;subst hj;exact absurd (List.mem_of_getElem? (by simpa using hi)) (List.nodup_cons.1 hn).1
 | x::l,hn,i+1,j+1,a,hi,hj=>congrArg (·+1) (ny (List.nodup_cons.1 hn).2 (i:=i) (j:=j) (a:=a) (by simpa using hi) (by simpa using hj))
theorem nz{α β:Type}(f:α->β):∀(l:List α)(i:Nat),(l.eraseIdx i).map f=(l.map f).eraseIdx i
 | [],_=>rfl
 | _::_,0=>rfl
 | x::l,i+1=>by simp[nz f l i]
theorem IP{k:κ}{v:E}:∀{q:List (κ×E)}{j:Nat},(q.map Prod.fst).Nodup->q[j]?=some (k,v)->vm q k=some v
 | [],j,_,h=>by simp at h
 | p::q,0,_,h=>by simp at h;subst h;simp[vm]
 | p::q,j+1,hn,h=>by
   simp only[bX,List.nodup_cons] at hn;have hq:q[j]?=some (k,v):=by simpa using h
   have kr:p.1≠k:=λe=>hn.1 (by rw[e];exact List.mem_map.2 ⟨_,List.mem_of_getElem? hq,rfl⟩);have ih:=IP hn.2 hq;unfold vm at ih ⊢;rw[List.find?_cons_of_neg (by simpa using kr)];exact ih
theorem yC{k:κ}:∀{q:List (κ×E)},k ∉ q.map Prod.fst->vm q k=none
 | [],_=>rfl
 | p::q,h=>by
   simp only[bX,b_,not_or] at h;have ih:=yC h.2;unfold vm at ih ⊢;rw[List.find?_cons_of_neg (by simpa using λe=>h.1 e.symm)];exact ih
def pO{es:List MapEntry}(h:es.map (λe=>(e.key,e.val))=q.map λp=>(ke p.1,p.2)):es.map (·.key)=(q.map Prod.fst).map ke:=by have:=congrArg (List.map Prod.fst) h;simpa [List.map_map,Function.comp_def] using this
theorem u9{es:List MapEntry}(h:es.map (λe=>(e.key,e.val))=q.map λp=>(ke p.1,p.2)){e:MapEntry}{k:κ}(he:es[j]?=some e)(K:(q.map Prod.fst)[j]?=some k):q[j]?=some (k,e.val):=by
 have I:=congrArg (λl=>l[j]?) h;simp only[List.getElem?_map,he,dp] at I;rw[List.getElem?_map] at K;cases hq:q[j]? with
 | none=>rw[hq] at K;cases K
 | some p=>
   rw[hq] at K I;injection K with K;injection I with I;injection I with _ Z;rw[Z,<-K]
def eR.look(aer:pe P kt ke)(ht:P.underlying t=some (.map kt et))(hz:(zeroValue et).run P w=.ok z w)(h:eR ke b q w V)(k:κ)(c:Bool):(Instr.lookup t (.map (some b)) (ke k) c).run P w=.ok (if c then a_ #[(vm q k).getD z,aY (vm q k).isSome] else (vm q k).getD z) w:=by
 obtain⟨_,hn,es,cl,hb,he,_⟩:=h;obtain⟨r,hr,o0⟩:=aer.find w k es.toList 0 (q.map Prod.fst) (pO he);have H:(getObj b).run P w=.ok (.map es cl) w:=MapKept.run_getObj_map hb;rcases o0 with ⟨I,rfl⟩|⟨j,e,I,Z,rfl⟩
 ·rw[yC I]
  cases c<;>simp[Instr.lookup,run_underlying ht,H,aer.check w _ k,hr,hz,Result.andThen]
 ·rw[IP hn (u9 he I Z)]
  cases c<;>simp[Instr.lookup,run_underlying ht,H,aer.check w _ k,hr,Result.andThen]
def heap_set(w:G)(b:Nat)(o:Obj)(hb:b<(w:Nat)):({ w with heap:=w.heap.setIfInBounds b o }:G).heap[b]?=some o:=by simp[Array.getElem?_setIfInBounds,hb]
def qU(w:G)(b:Nat)(o:Obj):dP (λc=>c=b) w { w with heap:=w.heap.setIfInBounds b o }:=⟨rfl,rfl,rfl,by simp,λi _ kr=>by simp only[Array.getElem?_setIfInBounds];rw[aB (λe=>kr e.symm)]⟩
def eR.put(aer:pe P kt ke)(ht:P.underlying t=some (.map kt et))(h:eR ke b q w V)(k:κ)(v:E):∃O,(Instr.mapUpdate t (.map (some b)) (ke k) v).run P w=.ok () O∧eR ke b (lN q k v) O V∧dP (λc=>c=b) w O:=by
 obtain⟨hv,hn,es,cl,hb,he,B1⟩:=h;obtain⟨r,hr,o0⟩:=aer.find w k es.toList 0 (q.map Prod.fst) (pO he);have fM:b<(w:Nat):=(Array.getElem?_eq_some_iff.1 hb).1;have H:(getObj b).run P w=.ok (.map es cl) w:=MapKept.run_getObj_map hb;rcases o0 with ⟨I,rfl⟩|⟨j,e,I,Z,rfl⟩
 ·refine⟨_,?_,⟨hv,?_,_,_,heap_set w b (.map (es.push { key:=ke k,val:=v,born:=cl }) (cl+1)) fM,?_,B1.push _ _⟩,qU w b _⟩
  ·simp[Instr.mapUpdate,run_underlying ht,H,aer.check w _ k,hr,Result.andThen,MapKept.run_setObj_map _ hb]
  ·unfold lN
   rw[aB I,bM,List.nodup_append];refine⟨hn,by simp,?_⟩;intro a ha c hc;simp at hc;subst hc;exact λe=>I (by rw[<-e];exact ha)
  ·unfold lN
   rw[aB I,Array.toList_push,bM,he,bM];rfl
 ·have lC:k∈q.map Prod.fst:=List.mem_of_getElem? Z
  have hq:=u9 he I Z;have hek:e.key=ke k:=by have T:=congrArg (λl=>l[j]?) he;simp only[List.getElem?_map,I,hq,dp] at T;injection T with T;injection T with T
  have EZ:es[j]?=some e:=by simpa using I
  refine⟨_,?_,⟨hv,?_,_,_,heap_set w b (.map (es.modify j λe=>{ e with key:=ke k,val:=v }) cl) fM,?_,B1.modify j _ _⟩,qU w b _⟩;·simp[Instr.mapUpdate,run_underlying ht,H,aer.check w _ k,hr,Result.andThen,MapKept.run_setObj_map _ hb,Instr.keyThatStays,EZ,hek,aer.same k]
  ·unfold lN
   rw[aA lC,List.map_map];have:(Prod.fst ∘ λp:κ×E=>if p.1=k then (k,v) else p)=Prod.fst:=by
    funext p;simp only[Function.comp];split;·rename_i hp;exact hp.symm
    ·rfl
   rw[this];exact hn
  ·unfold lN
   rw[aA lC];apply List.ext_getElem?;intro i;have T:=congrArg (λl=>l[i]?) he;simp only[List.getElem?_map,Array.getElem?_toList,Array.getElem?_modify] at T ⊢;by_cases o7:j=i
   ·subst o7
    rw[aA rfl,EZ,hq];simp
   ·rw[aB o7]
    cases T5:q[i]? with
    | none=>rw[T5] at T;simpa using T
    | some p=>
      have kr:p.1≠k:=λe=>o7 (by
       have e1:(q.map Prod.fst)[i]?=some k:=by rw[List.getElem?_map,T5,<-e];rfl
       exact ny hn Z e1)
      rw[T5] at T;simp only[dp,aB kr];simpa using T
def Pm{k:κ}(v:E)(h:k ∉ q.map Prod.fst):lN q k v=q++[(k,v)]:=aB h
def eR.del(aer:pe P kt ke)(ht:P.underlying t=some (.map kt et))(h:eR ke b q w V)(k:κ)(ty:dH):∃O,(Builtin.delete_ #[t,kt] ty #[.map (some b),ke k]).run P w=.ok (a_ #[]) O∧eR ke b (mq q k) O V∧dP (λc=>c=b) w O:=by
 obtain⟨hv,hn,es,cl,hb,he,B1⟩:=h;obtain⟨r,hr,o0⟩:=aer.find w k es.toList 0 (q.map Prod.fst) (pO he);have fM:b<(w:Nat):=(Array.getElem?_eq_some_iff.1 hb).1;have H:(getObj b).run P w=.ok (.map es cl) w:=MapKept.run_getObj_map hb;rcases o0 with ⟨I,rfl⟩|⟨j,e,I,Z,rfl⟩
 ·have hq:mq q k=q:=by
   unfold mq;rw[de];intro p hp;simp only[ne_eq,decide_not,Bool.not_eq_eq_eq_not,Bool.not_true,decide_eq_false_iff_not];exact λe=>I (by rw[<-e];exact List.mem_map.2 ⟨p,hp,rfl⟩)
  rw[hq]
  refine⟨_,?_,⟨hv,hn,_,_,heap_set w b (.map es cl) fM,he,B1⟩,qU w b _⟩
  simp[Builtin.delete_,run_underlying ht,H,aer.check w _ k,hr,Result.andThen,MapKept.run_setObj_map _ hb]
 ·have hq:=u9 he I Z
  have WJ:=(List.getElem?_eq_some_iff.1 hq).1;have C3:j<es.size:=by simpa using (List.getElem?_eq_some_iff.1 I).1
  have WK:mq q k=q.eraseIdx j:=by
   unfold mq;have a0y:q=q.take j++(k,e.val)::q.drop (j+1):=by have h6:=List.getElem_cons_drop WJ;rw[show q[j]=(k,e.val) from (List.getElem?_eq_some_iff.1 hq).2] at h6;rw[h6,dA]
   have kr:∀i p,q[i]?=some p->i≠j->p.1≠k:=λi p hp o7 e6=>by
    have e1:(q.map Prod.fst)[i]?=some k:=by rw[List.getElem?_map,hp,<-e6];rfl
    exact o7 (ny hn Z e1).symm
   rw[List.eraseIdx_eq_take_drop_succ];conv=>lhs;rw[a0y]
   rw[List.filter_append,List.filter_cons_of_neg (by simp)];congr 1
   ·rw[de]
    intro p hp;obtain⟨i,hi,rfl⟩:=List.getElem_of_mem hp;have va:=hi;rw[bn] at va;rw[List.getElem_take];simpa using kr i _ (List.getElem?_eq_getElem ap) ap
   ·rw[de]
    intro p hp;obtain⟨i,hi,rfl⟩:=List.getElem_of_mem hp;have va:=hi;rw[bU] at va;rw[List.getElem_drop];simpa using kr (j+1+i) _ (List.getElem?_eq_getElem ap) ap
  refine⟨_,?_,⟨hv,?_,_,_,heap_set w b (.map (es.eraseIdxIfInBounds j) cl) fM,?_,by rw[Array.eraseIdxIfInBounds,dif_pos C3];exact B1.erase C3⟩,qU w b _⟩;·simp[Builtin.delete_,run_underlying ht,H,aer.check w _ k,hr,Result.andThen,MapKept.run_setObj_map _ hb]
  ·rw[WK]
   exact hn.sublist ((List.eraseIdx_sublist q j).map Prod.fst)
  ·rw[WK,Array.eraseIdxIfInBounds,dif_pos C3]
   simp only[Array.toList_eraseIdx];rw[nz,nz,he]
end
section
def C4{qk:IntKind}(K:P.underlying kt=some (.int qk)):pe (κ:=Int) P kt (λx => .int qk x) where
 check w b k:=by
  have main:∀n,(Instr.checkKey b (n+1) kt (.int qk k)).run P w=.ok () w:=λn=>by simp[Instr.checkKey,run_underlying K]
  exact main 9999
 find w k es i q h:=by
  have main:∀(es:List MapEntry)(q:aN)(i:Nat),es.map (·.key)=q.map (λx=>Value.int qk x)->(k ∉ q∧Instr.findNow (.int qk) (.int qk k) es i=some none)∨∃(j:Nat)(e:MapEntry),es[j]?=some e∧q[j]?=some k∧Instr.findNow (.int qk) (.int qk k) es i=some (some (i+j,e.val)):=by
   intro es;induction es with
   | nil=>
     intro q i h;cases q with
     | nil=>exact .inl ⟨by simp,rfl⟩
     | cons=>simp at h
   | cons e es ih=>
     intro q i h;cases q with
     | nil=>simp at h
     | cons x q=>
       simp only[bX,List.cons.injEq] at h;obtain⟨I,Z⟩:=h;by_cases X:k=x
       ·subst X
        exact .inr ⟨0,e,rfl,rfl,by simp[Instr.findNow,I,Instr.sameNow]⟩
       ·have hf:Instr.findNow (.int qk) (.int qk k) (e::es) i=Instr.findNow (.int qk) (.int qk k) es (i+1):=by
         have hkx:(k == x)=false:=by simpa using X
         simp[Instr.findNow,I,Instr.sameNow,hkx]
        rcases ih q (i+1) Z with ⟨T,h4⟩|⟨j,e',T,h4,h5⟩
        ·exact .inl ⟨by simp[X,T],by rw[hf,h4]⟩
        ·exact .inr ⟨j+1,e',by simpa using T,by simpa using h4,by rw[hf,h5];simp;omega⟩
  rcases main es q 0 h with ⟨I,Z⟩|⟨j,e,I,Z,T⟩
  ·exact⟨none,by simp[Instr.findKey,run_underlying K,Z],.inl ⟨I,rfl⟩⟩
  ·exact⟨some (j,e.val),by simp[Instr.findKey,run_underlying K,T],.inr ⟨j,e,I,Z,rfl⟩⟩
 same k:=by simp[Instr.sameBits]
def ub{κ:Type}[DecidableEq κ]{ke:κ->E}{fs:Array Field}(K:P.underlying kt=some (.struct fs))(hc:∀(w:G)(b:Bool)(k:κ),(Instr.checkKey b 10000 kt (ke k)).run P w=.ok () w)
 (he:∀(w:G)(a b:κ),(Op.equal kt (ke a) (ke b)).run P w=.ok (decide (a=b)) w) (hs:∀k,Instr.sameBits 10000 (ke k) (ke k)=true):pe P kt ke where
 check:=hc
 same:=hs
 find w k es i q h:=by
  have main:∀(es:List MapEntry)(q:List κ)(i:Nat),es.map (·.key)=q.map ke->∃r,(Instr.findAsking kt (ke k) es i).run P w=.ok r w∧((k ∉ q∧r=none)∨∃(j:Nat)(e:MapEntry),es[j]?=some e∧q[j]?=some k∧r=some (i+j,e.val)):=by
   intro es;induction es with
   | nil=>
     intro q i h;cases q with
     | nil=>exact⟨none,by simp[Instr.findAsking],.inl ⟨by simp,rfl⟩⟩
     | cons=>simp at h
   | cons e es ih=>
     intro q i h;cases q with
     | nil=>simp at h
     | cons x q=>
       simp only[bX,List.cons.injEq] at h;obtain⟨I,Z⟩:=h;by_cases X:k=x
       ·subst X
        exact⟨some (i,e.val),by simp[Instr.findAsking,I,he],.inr ⟨0,e,rfl,rfl,rfl⟩⟩
       ·obtain⟨r,hr,o0⟩:=ih q (i+1) Z
        refine⟨r,by simp[Instr.findAsking,I,he,X,hr],?_⟩;rcases o0 with ⟨T,h4⟩|⟨j,e',T,h4,h5⟩
        ·exact .inl ⟨by simp[X,T],h4⟩
        ·exact .inr ⟨j+1,e',by simpa using T,by simpa using h4,by rw[h5];simp;omega⟩
  obtain⟨r,hr,o0⟩:=main es q 0 h;refine⟨r,?_,by simpa using o0⟩;cases es with
  | nil=>simpa [Instr.findKey,run_underlying K,Instr.findNow,Instr.findAsking] using hr
  | cons e es=>simp[Instr.findKey,run_underlying K,Instr.findNow,Instr.sameNow,hr]
end
section
variable{α:Type}(e size:Nat)(cells:α->List E)(good:G->(Nat->Prop)->α->Prop)
def iQ:Prop:=∀(w:G)(D D':aV)(a:α),good w D a->(∀b,D b->D' b)->good w D' a
def Acc(w0:G)(v:E)(q:List α)(w:G):Prop:=∃R D:aV,Own w R e size v q.length (q.flatMap cells)∧(∀b∈q,good w D b)∧(∀b,R b->New w0 w b∧¬ D b)∧(∀b,D b->New w0 w b)∧Grow w0 w
variable{e size cells good}{q:List α}
theorem Acc.nil(w0:G):Acc e size cells good w0 (Y none 0 0) [] w0:=⟨λ_=>False,λ_=>False,Own.nil,by simp,λ_ h=>h.elim,λ_ h=>h.elim,Grow.refl _⟩
def Acc.base(h:Acc e size cells good w0 v q w):Grow w0 w:=by obtain⟨_,_,_,_,_,_,h⟩:=h;exact h
def Acc.slice(h:Acc e size cells good w0 v q w):∃A c,v=Y A q.length c:=by obtain⟨R,D,I,_⟩:=h;obtain⟨A,c,I,_⟩:=I.reads;exact⟨A,c,I⟩
def Acc.done(hM:iQ good)(h:Acc e size cells good w0 v q w):∃A c,v=Y A q.length c∧In w (New w0 w) size A q.length (q.flatMap cells)∧(∀b∈q,good w (New w0 w) b)∧q.length<=c∧c<=dL∧Grow w0 w:=by obtain⟨R,D,I,Z,T,h4,h5⟩:=h;obtain⟨A,c,rfl,h6,h7,h8⟩:=I.kB;exact⟨A,c,rfl,h6.mono λb hb=>(T b hb).1,λb hb=>hM _ _ _ _ (Z b hb) h4,h7,h8,h5⟩
def TX{t:Nat}(aep:Elem P t e size bytes z)(hG:iY good)(hM:iQ good)(hl:∀a,(cells a).length=size)(n_:∀a,∀u∈cells a,u.oneCell'=true)
 (h:Acc e size cells good w0 v q w) (H:Grow w w1) {b:α} (hb:good w1 (New w w1) b) (fC:(q.length+1)*bytes<=140737488355328) (ty:dH) (c:Nat):∃v' O,(cA #[t,t] ty #[v,Y (some ⟨(w1:Nat),0,none⟩) 1 c]).run P (w1.alloc (.cells (cells b).toArray e))=.ok v' O∧Acc e size cells good w0 v' (q++[b]) O:=by
 obtain⟨R,D,I,Z,T,h4,h5⟩:=h;have fN:Grow w1 (w1.alloc (.cells (cells b).toArray e)):=(Below.refl _ w1).alloc (bh _) _;have fA:=H.trans fN;have sE:Reads (w1.alloc (.cells (cells b).toArray e)) ((w1:Nat)+1) size (some ⟨(w1:Nat),0,none⟩) 1 (cells b):=by have:=fO w1 (cells b).toArray e (0,0) (n:=1) (size:=size) (by simp[hl]) _ rfl;simpa using this
 obtain⟨v',O,eM,hO,hj⟩:=jK aep _ ty v q.length (q.flatMap cells) (I.grows fA) _ _ 1 c (cells b) sE (n_ b) fC;have s1:=H.size;have s2:(w1.alloc (.cells (cells b).toArray e)).heap.size=(w1:Nat)+1:=fy _ _;have s3:=hj.size;have s0:=h5.size;rw[s2] at s3;have lO:∀x,R x->x<(w:Nat):=λx X=>(T x X).1.2;refine⟨v',O,eM,ju R (w1.alloc (.cells (cells b).toArray e)) O,λx=>D x∨New w w1 x,?_,λa ha=>?_,λx X=>?_,λx X=>?_,?_⟩
 ·rw[bO,bN,cI,bm,bd]
  exact hO
 ·rcases List.mem_append.1 ha with ha|ha
  ·exact hM _ D _ _ (hG _ _ _ R _ (hG _ _ _ _ _ (Z a ha) (dP.dR (V:=λ_=>False) fA) (λ_ _ h=>h)) hj λx X hr=>(T x hr).2 X) λ_ => .inl
  ·rw[List.mem_singleton.1 ha]
   exact hM _ (New w w1) _ _ (hG _ _ _ R _ (hG _ _ _ _ _ hb (dP.dR (V:=λ_=>False) fN) (λ_ _ h=>h)) hj λx X hr=>by have:=X.1;have:=lO x hr;omega) λ_ => .inr
 ·rcases X with X|⟨sU,me⟩
  ·refine⟨⟨(T x X).1.1,by have:=lO x X;omega⟩,λhd=>?_⟩
   rcases hd with hd|hd
   ·exact (T x X).2 hd
   ·have:=hd.1;have:=lO x X;omega
  ·rw[s2] at sU
   refine⟨⟨by omega,me⟩,λhd=>?_⟩;rcases hd with hd|hd
   ·have:=(h4 x hd).2;omega
   ·have:=hd.2;omega
 ·rcases X with X|X
  ·exact⟨(h4 x X).1,by have:=(h4 x X).2;omega⟩
  ·exact⟨by have:=X.1;omega,by have:=X.2;omega⟩
 ·exact Below.trans (h5.trans fA) (hj.below (B:=(w0:Nat)) (λx X=>(T x X).1.1) ap)
def IQ{t:Nat}(aep:Elem P t e size bytes z)(hG:iY good)(hM:iQ good)(hl:∀a,(cells a).length=size)(n_:∀a,∀u∈cells a,u.oneCell'=true)
 {ops:Array dJ} {rest:List dJ} {o:dJ} {a:dK} {aes:Exit->dK->G->Prop} (hw:bz o (yielded ops a.tmps)=true) (s x:Operand)
 (ho:o.op=.call { callee := .builtin .append,args:=#[s,x],argTypes:=#[t,t] })
 (h:Acc e size cells good w0 v q w) (H:Grow w w1) (b:α) (hb:good w1 (New w w1) b) (fC:(q.length+1)*bytes<=140737488355328)
 (hs:a.eval s=v) {c:Nat} (X:a.eval x=Y (some ⟨(w1:Nat),0,none⟩) 1 c)
 (k:∀v' O,Acc e size cells good w0 v' (q++[b]) O->wpList P ops aes rest (a.put o.dst v') O):wpList P ops aes (o::rest) a (w1.alloc (.cells (cells b).toArray e)):=by obtain⟨v',O,eM,hA⟩:=TX aep hG hM hl n_ h H hb fC o.type c;unfold wpList;rw[aA hw];refine .inl ?_;unfold Oper.wp execOp;simp only[ho,resolve,invoke,builtin,Sem.run_bind,Sem.run_pure,Result.andThen_ok,cZ,bX,cS,hs,X,eM];exact k v' O hA
end
def eL.all(h:eL w g t cs)(vs:List E)(hl:vs.length=cs.size):eL (w.setCells g 0 vs) g t vs.toArray:=by
 obtain⟨cur,I,Z,T⟩:=iU g t (0,0) vs 0 w cs h ap;have h4:cur=vs.toArray:=by apply Array.ext';rw[T,List.take_zero,cC,cL,cB (by simp;omega),bm]
 rw[h4] at I;exact I
def pf{α:Type}:iY (λ(_:G)(_:aV)(_:α)=>True):=λ_ _ _ _ _ _ _ _=>trivial
def vn{α:Type}:iQ (λ(_:G)(_:aV)(_:α)=>True):=λ_ _ _ _ _ _=>trivial
inductive Bl where
 | c (p:Nat) (t:dH) (cs:aP)
 | o (S:ei)
def Bl.th:Bl->ei
 | .c p t cs=>Cell p t cs
 | .o S=>S
def Bl.ok:Bl->Prop
 | .c ..=>True
 | .o S=>eQ S
theorem Bl.framed:∀{x:Bl},x.ok->eQ x.th
 | .c p t cs,_=>Cell.framed p t cs
 | .o _,h=>h
abbrev qv(l:List Bl):List ei:=l.map Bl.th
def qD:List Bl->Prop
 | []=>True
 | x::l=>x.ok∧qD l
theorem pP:∀{l:List Bl},qD l->∀x∈l,x.ok
 | x::l,h,y,hy=>by
   rcases List.mem_cons.1 hy with rfl|hy
   ·exact h.1
   ·exact pP h.2 y hy
theorem qV:∀{l:List Bl},(∀x∈l,x.ok)->qD l
 | [],_=>trivial
 | x::l,h=>⟨h x (by simp),qV λy hy=>h y (by simp[hy])⟩
def mj{a b:List Bl}(ha:qD a)(hb:qD b):qD (a++b):=qV λx X=>(List.mem_append.1 X).elim (pP ha x) (pP hb x)
def jX{a b:List Bl}(h:qD (a++b)):qD b:=qV λx X=>pP h x (List.mem_append.2 (.inr X))
def TY{l:List Bl}(h:qD l)(i:Nat){b:Bl}(hb:b.ok):qD (l.set i b):=qV λx X=>(List.mem_or_eq_of_mem_set X).elim (pP h x) λe=>e▸hb
def f_{l:List Bl}(h:qD l):fb (qv l):=λS L=>by obtain⟨x,X,rfl⟩:=List.mem_map.1 L;exact Bl.framed (pP h x X)
def iV{l:List Bl}{b:Bl}(h:l[i]?=some b):(qv l)[i]?=some b.th:=by simp[qv,h]
structure St(V:Nat->Prop)(w0:G)(l:List Bl)(w:G):Prop where
 own:Solo (pd V w0) (dU (qv l)) w
 just:dP (pd V w0) w0 w
 ok:qD l
 lt:∀b,V b->b<(w0:Nat)
def Lw(P:dI)(D:aV)(f:FuncId)(args:aP)(a:List Bl){ι:Type}(C:ι->Ending->Prop)(a':ι->List Bl)(w:G):Prop:=∀V:aV,dU (qv a) w V->(∀b,V b->b<(w:Nat)∧¬ D b)->dF P f args w λe O=>∃i,C i e∧dU (qv (a' i)) O (ju V w O)∧dP V w O
def fE:List Bl->G->Prop
 | [],_=>True
 | .c p _ cs::l,w=>((∀i,w.cell? ⟨p,i,none⟩=cs[i]?)∧∀i,w.frozen? ⟨p,i,none⟩=false)∧fE l w
 | .o _::l,w=>fE l w
theorem yD:∀{l:List Bl}{w:G}{V:aV},dU (qv l) w V->fE l w
 | [],_,_,_=>trivial
 | .c p t cs::l,w,V,h=>by
   obtain⟨_,_,I,Z,_⟩:=h;exact⟨⟨λi=>I.2.cell i,λi=>I.2.frozen i⟩,yD Z⟩
 | .o S::l,w,V,h=>by
   obtain⟨_,_,_,Z,_⟩:=h;exact yD (l:=l) Z
section
variable{D:aV}{f:FuncId}{ι:Type}{x:Bl}{C:ι->Ending->Prop}{l a b:List Bl}{a':ι->List Bl}{p:Nat}
theorem St.begin_(h:dU (qv l) w V)(hV:∀b,V b->b<(w:Nat))(ho:qD l):St V w l w:=⟨Solo.begin_ h hV,dP.dR (Grow.refl w),ho,hV⟩
def St.facts(h:St V w0 l w):fE l w:=by obtain⟨⟨_,V,hM,_⟩,_⟩:=h;exact yD hM
theorem St.blk(h:St V w0 l w)(i:Nat)(hi:l[i]?=some (.c p t cs)):eL w p t cs:=h.own.blk i (iV hi)
def St.grow(h:St V w0 l w)(H:Grow w O):St V w0 l O:=⟨h.own.grows (f_ h.ok) H,h.just.trans (dP.dR H),h.ok,h.lt⟩
def fc(w:G)(o:Obj):Grow w (w.alloc o):=(Below.refl _ w).alloc (bh _) o
def St.new(h:St V w0 l w)(cs:aP)(t:dH):St V w0 (.c (w:Nat) t cs::l) (w.alloc (.cells cs t)):=⟨h.own.join (f_ h.ok) (fc w _) (R:=Cell (w:Nat) t cs) (U:=λb=>b=(w:Nat)) ⟨rfl,eL.made w t cs⟩ (λb hb=>by rw[show b=(w:Nat) from hb];exact⟨bh _,by simp⟩),h.just.trans (dP.dR (fc w _)),⟨trivial,h.ok⟩,h.lt⟩
theorem St.join(h:St V w0 l w){S:ei}(L:eQ S)(H:Grow w O){U:aV}(W:S O U)(hU:∀b,U b->(w:Nat)<=b∧b<(O:Nat)):St V w0 (.o S::l) O:=⟨h.own.join (f_ h.ok) H W hU,h.just.trans (dP.dR H),⟨L,h.ok⟩,h.lt⟩
def T_(l:List Bl)(i:Nat)(b:Bl):qv (l.set i b)=(qv l).set i b.th:=List.map_set
theorem St.turned(h:St V w0 l w)(i:Nat){cs':aP}(hi:l[i]?=some (.c p t cs))(hj:dP (λb=>b=p) w O)(hB:eL O p t cs'):St V w0 (l.set i (.c p t cs')) O:=⟨by rw[T_];exact h.own.turned i (iV hi) (f_ h.ok) hj hB,h.just.trans (hj.imp λb hb=>hb▸(h.own.Yb i (iV hi)).1),TY h.ok i trivial,h.lt⟩
theorem St.put(h:St V w0 l w)(i:Nat)(hi:l[i]?=some (.c p t cs))(k:Nat)(u:E):St V w0 (l.set i (.c p t (cs.setIfInBounds k u))) (w.setCell ⟨p,k,none⟩ u):=h.turned i hi (mh w p k u) ((h.blk i hi).put k u)
theorem St.perm(h:St V w0 l w){l':List Bl}(hp:l.Perm l'):St V w0 l' w:=⟨h.own.perm (hp.map _),h.just,qV λx X=>pP h.ok x (hp.mem_iff.2 X),h.lt⟩
theorem nN{α:Type}:∀{l:List α}{i:Nat}{b:α},l[i]?=some b->l.Perm (b::l.eraseIdx i)
 | x::l,0,b,h=>by cases h;exact List.Perm.refl _
 | x::l,i+1,b,h=>((nN (l:=l) (i:=i) (by simpa using h)).cons x).trans (List.Perm.swap b x _)
def St.front(h:St V w0 l w)(i:Nat){b:Bl}(hi:l[i]?=some b):St V w0 (b::l.eraseIdx i) w:=h.perm (nN hi)
def ll(a b:List Bl):qv (a++b)=qv a++qv b:=bM
def St.call(h:St V w0 (a++b) w)(WL:∀i,qD (a' i))(hD:∀x,D x->x<(w:Nat)->¬ pd V w0 x)(hc:Lw P D f args a C a' w):dF P f args w λe O=>∃i,C i e∧St V w0 (a' i++b) O:=by
 obtain⟨⟨h0,V1,hM,hV⟩,hj,ho,fM⟩:=h;rw[ll] at hM;obtain⟨U1,U2,hA,hB,k1,k2,k3⟩:=dU.app _ hM;refine (hc U1 hA λx X=>⟨(hV x (k1 x X)).2,λhd=>hD x hd (hV x (k1 x X)).2 (hV x (k1 x X)).1⟩).mono λe O ⟨i,hC,o8,mc⟩=>⟨i,hC,⟨⟨λx X=>h0 x (bA mc.size X),ju V1 w O,?_,λx X=>?_⟩,hj.trans (mc.imp λx X=>(hV x (k1 x X)).1),mj (WL i) (jX ho),fM⟩⟩
 ·rw[ll]
  refine dU.flat _ ⟨ju U1 w O,U2,o8,dU.framed _ (f_ (jX ho)) w O U2 hB λx X=>mc.block x (hV x (k2 x X)).2 λI=>k3 x I X,λx X=>?_,λx X => .inl (k2 x X),λx X Z=>?_⟩
  ·rcases X with X|X
   ·exact .inl (k1 x X)
   ·exact .inr X
  ·rcases X with X|X
   ·exact k3 x X Z
   ·have:=(hV x (k2 x Z)).2;have:=X.1;omega
 ·rcases X with X|X
  ·exact⟨(hV x X).1,bu (hV x X).2 mc.size⟩
  ·exact⟨h0 x X.1,X.2⟩
def St.Fe(h:St V w0 (a++x::b) w)(WL:∀i,qD (a' i))(hc:∀U:aV,x.th w U->(∀y,U y->y<(w:Nat))->Lw P U f args a C a' w):dF P f args w λe O=>∃i,C i e∧St V w0 (a' i++x::b) O:=by
 obtain⟨⟨h0,V1,hM,hV⟩,hj,ho,fM⟩:=h;rw[ll] at hM;obtain⟨U1,U2,hA,hB,k1,k2,k3⟩:=dU.app _ hM;obtain⟨W1,W2,X,hB',m1,m2,m3⟩:=hB;refine (hc W1 X (λy hy=>(hV y (k2 y (m1 y hy))).2) U1 hA λy hy=>⟨(hV y (k1 y hy)).2,λhd=>k3 y hy (m1 y hd)⟩).mono λe O ⟨i,hC,o8,mc⟩=>⟨i,hC,⟨⟨λy hy=>h0 y (bA mc.size hy),ju V1 w O,?_,λy hy=>?_⟩,hj.trans (mc.imp λy hy=>(hV y (k1 y hy)).1),mj (WL i) (jX ho),fM⟩⟩
 ·rw[ll]
  refine dU.flat _ ⟨ju U1 w O,U2,o8,dU.framed _ (f_ (jX ho)) w O U2 ⟨W1,W2,X,hB',m1,m2,m3⟩ λy hy=>mc.block y (hV y (k2 y hy)).2 λI=>k3 y I hy,λy hy=>?_,λy hy => .inl (k2 y hy),λy hy Z=>?_⟩
  ·rcases hy with hy|hy
   ·exact .inl (k1 y hy)
   ·exact .inr hy
  ·rcases hy with hy|hy
   ·exact k3 y hy Z
   ·have:=(hV y (k2 y Z)).2;have:=hy.1;omega
 ·rcases hy with hy|hy
  ·exact⟨(hV y hy).1,bu (hV y hy).2 mc.size⟩
  ·exact⟨h0 y hy.1,hy.2⟩
def St.opn{κ:Type}{S:ei}{o:κ->List Bl}(h:St V w0 (.o S::b) w)(L:∀U,S w U->∃k,dU (qv (o k)) w U∧qD (o k)):∃k,St V w0 (o k++b) w:=by obtain⟨⟨h0,V1,⟨U1,U2,hA,hB,k1,k2,k3⟩,hV⟩,hj,ho,fM⟩:=h;obtain⟨k,hM,K⟩:=L U1 hA;exact⟨k,⟨h0,V1,by rw[ll];exact dU.flat _ ⟨U1,U2,hM,hB,k1,k2,k3⟩,hV⟩,hj,mj K ho.2,fM⟩
def St.cls{S:ei}(h:St V w0 (a++b) w)(hF:eQ S)(L:∀U,dU (qv a) w U->S w U):St V w0 (.o S::b) w:=by obtain⟨⟨h0,V1,hM,hV⟩,hj,ho,fM⟩:=h;rw[ll] at hM;obtain⟨U1,U2,hA,hB,k1,k2,k3⟩:=dU.app _ hM;exact⟨⟨h0,V1,⟨U1,U2,L _ hA,hB,k1,k2,k3⟩,hV⟩,hj,⟨hF,jX ho⟩,fM⟩
def St.drop(h:St V w0 (x::b) w):St V w0 b w:=⟨h.own.drop1,h.just,h.ok.2,h.lt⟩
def St.fin(h:St V w l O):dU (qv l) O (ju V w O)∧dP V w O:=h.own.done h.just h.lt
theorem St.size(h:St V w0 l w):(w0:Nat)<=(w:Nat):=h.just.size
def St.keep(h:St V w0 l w)(hD:∀x,D x->x<(w0:Nat)∧¬ V x):∀x,D x->w.heap[x]?=w0.heap[x]?:=λx X=>
 h.just.block x (hD x X).1 λhl=>hl.elim (hD x X).2 λZ=>by have:=(hD x X).1;omega
def St.far(hD:∀x,D x->x<(w0:Nat)∧¬ V x):∀x,D x->x<(w:Nat)->¬ pd V w0 x:=λx X _ hl=>hl.elim (hD x X).2 λZ=>by have:=(hD x X).1;omega
theorem iZ{α:Type}:∀{l:List α}{i:Nat}{b b':α},l[i]?=some b->(l.set i b').Perm (b'::l.eraseIdx i)
 | x::l,0,b,b',h=>by cases h;exact List.Perm.refl _
 | x::l,i+1,b,b',h=>((iZ (l:=l) (i:=i) (b':=b') (by simpa using h)).cons x).trans (List.Perm.swap b' x _)
def St.at_(h:St V w0 l w)(i:Nat){S:ei}{S':ι->ei}(hi:l[i]?=some (.o S))(hF:∀k,eQ (S' k))(hD:∀x,D x->x<(w:Nat)->¬ pd V w0 x)(hc:Lw P D f args [.o S] C (λk=>[.o (S' k)]) w):dF P f args w λe O=>∃k,C k e∧St V w0 (l.set i (.o (S' k))) O:=(St.call (a:=[.o S]) (a':=λk=>[.o (S' k)]) (b:=l.eraseIdx i) (h.front i hi) (λk=>⟨hF k,trivial⟩) hD hc).mono λe O ⟨k,hC,L⟩=>⟨k,hC,L.perm (iZ hi).symm⟩
def St.atR(h:St V w0 l w)(i j:Nat){S:ei}{S':ι->ei}(hi:l[i]?=some (.o S))(hj:(l.eraseIdx i)[j]?=some x)(hF:∀k,eQ (S' k))(hc:∀U:aV,x.th w U->(∀y,U y->y<(w:Nat))->Lw P U f args [.o S] C (λk=>[.o (S' k)]) w):dF P f args w λe O=>∃k,C k e∧St V w0 (l.set i (.o (S' k))) O:=(St.Fe (a:=[.o S]) (a':=λk=>[.o (S' k)]) (b:=(l.eraseIdx i).eraseIdx j) ((h.front i hi).perm ((nN hj).cons _)) (λk=>⟨hF k,trivial⟩) hc).mono λe O ⟨k,hC,L⟩=>⟨k,hC,(L.perm ((nN hj).symm.cons _)).perm (iZ hi).symm⟩
def St.dT(h:St V w0 l w)(i:Nat){b:Bl}(hi:l[i]?=some b):St V w0 (l.eraseIdx i) w:=(h.front i hi).drop
def St.new'(h:St V w0 l w)(cs:aP)(t:dH):∃y wa,Hid (y=(w:Nat))∧Hid (wa=w.alloc (.cells cs t))∧St V w0 (.c y t cs::l) wa:=⟨_,_,rfl,rfl,h.new cs t⟩
end
section
variable{α:Type}(e size:Nat)(cells:α->List E)(good:G->(Nat->Prop)->α->Prop)
def qW(B:Nat)(v:E)(q:List α)(w:G):Prop:=∃R D:aV,Own w R e size v q.length (q.flatMap cells)∧(∀b∈q,good w D b)∧(∀b,R b->(B<=b∧b<(w:Nat))∧¬ D b)∧(∀b,D b->B<=b∧b<(w:Nat))∧B<=(w:Nat)
variable{e size cells good}{q:List α}
theorem qW.nil(h:B<=(w:Nat)):qW e size cells good B (Y none 0 0) [] w:=⟨λ_=>False,λ_=>False,Own.nil,by simp,λ_ h=>h.elim,λ_ h=>h.elim,h⟩
def qW.just(hG:iY good)(h:qW e size cells good B v q w)(hj:dP U w O)(hU:∀b,U b->b<B∨(w:Nat)<=b):qW e size cells good B v q O:=by
 obtain⟨R,D,I,Z,T,h4,h5⟩:=h;have hs:=hj.size;refine⟨R,D,I.keep λb hb=>hj.block b (T b hb).1.2 λhu=>?_,λb hb=>hG _ _ _ _ _ (Z b hb) hj λx X hu=>?_,λb hb=>⟨⟨(T b hb).1.1,bu (T b hb).1.2 hs⟩,(T b hb).2⟩,λb hb=>⟨(h4 b hb).1,bu (h4 b hb).2 hs⟩,bA h5 hs⟩;·have:=(T b hb).1;have:=hU b hu;omega
 ·have:=h4 x X;have:=hU x hu;omega
def qW.slice(h:qW e size cells good B v q w):∃A c,v=Y A q.length c:=by obtain⟨R,D,I,_⟩:=h;obtain⟨A,c,I,_⟩:=I.reads;exact⟨A,c,I⟩
def qW.done(hM:iQ good)(h:qW e size cells good B v q w):∃A c,v=Y A q.length c∧In w (λb=>B<=b∧b<(w:Nat)) size A q.length (q.flatMap cells)∧(∀b∈q,good w (λb=>B<=b∧b<(w:Nat)) b)∧q.length<=c∧c<=dL:=by obtain⟨R,D,I,Z,T,h4,h5⟩:=h;obtain⟨A,c,rfl,h6,h7,h8⟩:=I.kB;exact⟨A,c,rfl,h6.mono λb hb=>(T b hb).1,λb hb=>hM _ _ _ _ (Z b hb) h4,h7,h8⟩
def Pn{t:Nat}(aep:Elem P t e size bytes z)(hG:iY good)(hM:iQ good)(hl:∀a,(cells a).length=size)(n_:∀a,∀u∈cells a,u.oneCell'=true)
 (h:qW e size cells good B v q w1) {b:α} {F:aV} (hb:good w1 F b) (hF:∀x,F x->B<=x∧x<(w1:Nat)) (hdis:∀R D:aV,Own w1 R e size v q.length (q.flatMap cells)->True) (qC:∀x,F x->∀A c g,v=Y (some ⟨g,A,none⟩) q.length c->x≠g) (fC:(q.length+1)*bytes<=140737488355328) (ty:dH) (c:Nat):∃v' O,(cA #[t,t] ty #[v,Y (some ⟨(w1:Nat),0,none⟩) 1 c]).run P (w1.alloc (.cells (cells b).toArray e))=.ok v' O∧qW e size cells good B v' (q++[b]) O∧dP (λx=>B<=x) w1 O:=by
 obtain⟨R0,D,I,Z,T,h4,h5⟩:=h;obtain⟨R,I,hR0,hRF⟩:∃R:aV,Own w1 R e size v q.length (q.flatMap cells)∧(∀x,R x->R0 x)∧∀x,R x->¬ F x:=by
  obtain⟨ha,nu|⟨g,cap,cur,hv,hV,r⟩⟩:=I;·exact⟨λ_=>False,⟨ha,.inl nu⟩,λ_ h=>h.elim,λ_ h=>h.elim⟩
  ·exact⟨λx=>x=g,⟨ha,.inr ⟨g,cap,cur,hv,rfl,r⟩⟩,λx X=>X▸hV,λx X hf=>qC x hf 0 cap g hv X⟩
 have T:∀x,R x->(B<=x∧x<(w1:Nat))∧¬ D x:=λx X=>T x (hR0 x X);have fN:Grow w1 (w1.alloc (.cells (cells b).toArray e)):=(Below.refl _ w1).alloc (bh _) _;have sE:Reads (w1.alloc (.cells (cells b).toArray e)) ((w1:Nat)+1) size (some ⟨(w1:Nat),0,none⟩) 1 (cells b):=by have:=fO w1 (cells b).toArray e (0,0) (n:=1) (size:=size) (by simp[hl]) _ rfl;simpa using this
 obtain⟨v',O,eM,hO,hj⟩:=jK aep _ ty v q.length (q.flatMap cells) (I.grows fN) _ _ 1 c (cells b) sE (n_ b) fC;have s2:(w1.alloc (.cells (cells b).toArray e)).heap.size=(w1:Nat)+1:=fy _ _;have s3:=hj.size;rw[s2] at s3;have lO:∀x,R x->x<(w1:Nat):=λx X=>(T x X).1.2;refine⟨v',O,eM,⟨ju R (w1.alloc (.cells (cells b).toArray e)) O,λx=>D x∨F x,?_,λa ha=>?_,λx X=>?_,λx X=>?_,by omega⟩,(dP.dR fN).trans (hj.imp λx X=>(T x X).1.1)⟩
 ·rw[bO,bN,cI,bm,bd]
  exact hO
 ·rcases List.mem_append.1 ha with ha|ha
  ·exact hM _ D _ _ (hG _ _ _ R _ (hG _ _ _ _ _ (Z a ha) (dP.dR (V:=λ_=>False) fN) (λ_ _ h=>h)) hj λx X hr=>(T x hr).2 X) λ_ => .inl
  ·rw[List.mem_singleton.1 ha]
   exact hM _ F _ _ (hG _ _ _ R _ (hG _ _ _ _ _ hb (dP.dR (V:=λ_=>False) fN) (λ_ _ h=>h)) hj λx X hr=>hRF x hr X) λ_ => .inr
 ·rcases X with X|⟨sU,me⟩
  ·refine⟨⟨(T x X).1.1,by have:=lO x X;omega⟩,λhd=>?_⟩
   rcases hd with hd|hd
   ·exact (T x X).2 hd
   ·exact hRF x X hd
  ·rw[s2] at sU
   refine⟨⟨by omega,me⟩,λhd=>?_⟩;rcases hd with hd|hd
   ·have:=(h4 x hd).2;omega
   ·have:=(hF x hd).2;omega
 ·rcases X with X|X
  ·exact⟨(h4 x X).1,by have:=(h4 x X).2;omega⟩
  ·exact⟨(hF x X).1,by have:=(hF x X).2;omega⟩
def wM{t:Nat}(aep:Elem P t e size bytes z)(hl:∀a,(cells a).length=size)(n_:∀a,∀u∈cells a,u.oneCell'=true)
 {ops:Array dJ} {rest:List dJ} {o:dJ} {a:dK} {aes:Exit->dK->G->Prop} (hw:bz o (yielded ops a.tmps)=true) (s x:Operand)
 (ho:o.op=.call { callee := .builtin .append,args:=#[s,x],argTypes:=#[t,t] })
 (h:qW e size cells (λ_ _ _=>True) B v q w1) (b:α) (fC:(q.length+1)*bytes<=140737488355328)
 (hs:a.eval s=v) {c:Nat} (X:a.eval x=Y (some ⟨(w1:Nat),0,none⟩) 1 c)
 (k:∀v' O,qW e size cells (λ_ _ _=>True) B v' (q++[b]) O->dP (λx=>B<=x) w1 O->wpList P ops aes rest (a.put o.dst v') O):wpList P ops aes (o::rest) a (w1.alloc (.cells (cells b).toArray e)):=by obtain⟨v',O,eM,hA,hj⟩:=Pn aep pf vn hl n_ h (b:=b) (F:=λ_=>False) trivial (λ_ h=>h.elim) (λ_ _ _=>trivial) (λ_ h=>h.elim) fC o.type c;unfold wpList;rw[aA hw];refine .inl ?_;unfold Oper.wp execOp;simp only[ho,resolve,invoke,builtin,Sem.run_bind,Sem.run_pure,Result.andThen_ok,cZ,bX,cS,hs,X,eM];exact k v' O hA hj
end
section
def d_(hw:bz o (yielded ops a.tmps)=true)(ty:dH)(x:Operand)(ho:o.op=.load ty x)(g:Nat)(X:a.eval x=(g:E))(hB:eL w g t cs){fs:Array Field}(hu:P.underlying ty=some (.struct fs))(hi:(P.info? ty).map (·.size)=some cs.size)
 (h:wpList P ops aes rest (a.put o.dst (aZ cs)) w):wpList P ops aes (o::rest) a w:=by unfold wpList;rw[aA hw];exact .inl (wp_load_row ty x ho g X t cs (0,0) _ hB hu rfl hi h)
def vo(hw:bz o (yielded ops a.tmps)=true)(ty:dH)(x y:Operand)(ho:o.op=.store ty x y)(g:Nat)(X:a.eval x=(g:E))(vs:List E)(hy:a.eval y=aZ vs.toArray)(hB:eL w g t cs)(hl:vs.length=cs.size)(I:vs.toArray.all (·.oneCell')=true)(hi:(P.info? ty).map (·.size)=some vs.toArray.size)
 (h:wpList P ops aes rest (a.put o.dst undef) (w.setCells g 0 vs)):wpList P ops aes (o::rest) a w:=by
 unfold wpList;rw[aA hw];refine .inl (wp_store_mid ty x y ho g 0 vs.toArray X hy ?_ hi I (by simpa using h));intro j hj;have mc:j<cs.size:=by simp at hj;omega
 refine⟨?_,?_⟩;·rw[hB.cell,Array.getElem?_eq_getElem ap];rfl
 ·exact hB.frozen _
def uc(hw:bz o (yielded ops a.tmps)=true)(ty:dH)(x y:Operand)(ho:o.op=.store ty x y)(g b:Nat)(X:a.eval x=.pointer (some ⟨g,b,none⟩))(vs:List E)(hy:a.eval y=aZ vs.toArray)(hB:eL w g t cs)(hl:b+vs.length<=cs.size)(I:vs.toArray.all (·.oneCell')=true)(hi:(P.info? ty).map (·.size)=some vs.toArray.size)
 (h:wpList P ops aes rest (a.put o.dst undef) (w.setCells g b vs)):wpList P ops aes (o::rest) a w:=by
 unfold wpList;rw[aA hw];refine .inl (wp_store_mid ty x y ho g b vs.toArray X hy ?_ hi I (by simpa using h));intro j hj;have mc:b+j<cs.size:=by simp at hj;omega
 refine⟨?_,?_⟩;·rw[hB.cell,Array.getElem?_eq_getElem mc];rfl
 ·exact hB.frozen _
def eL.part(h:eL w g t cs)(b:Nat)(vs:List E)(hl:b+vs.length<=cs.size):eL (w.setCells g b vs) g t (cs.toList.take b++vs++cs.toList.drop (b+vs.length)).toArray:=by
 obtain⟨cur,I,Z,T⟩:=iU g t (0,0) vs b w cs h hl;have h4:cur=(cs.toList.take b++vs++cs.toList.drop (b+vs.length)).toArray:=by apply Array.ext';rw[T]
 rw[h4] at I;exact I
def vq(g b:Nat)(vs:List E)(w:G):dP (λx=>x=g) w (w.setCells g b vs):=dP.jW (i5 g vs b w) rfl
def Ff(hw:bz o (yielded ops a.tmps)=true)(ty:dH)(x y:Operand)(ho:o.op=.store ty x y)(g:Nat)(X:a.eval x=(g:E))(vs:List E)(hy:a.eval y=aZ vs.toArray)(hB:eL w g t cs)(hl:vs.length=cs.size)(I:vs.all (λv=>v.oneCell')=true)(hi:(P.info? ty).map (·.size)=some vs.toArray.size)
 (h:∀O,eL O g t vs.toArray->dP (λb=>b=g) w O->(O:Nat)=(w:Nat)->wpList P ops aes rest (a.put o.dst undef) O):wpList P ops aes (o::rest) a w:=
 vo hw ty x y ho g X vs hy hB hl (by simpa using I) hi (h _ (hB.all vs hl) (dP.jW (i5 g vs 0 w) rfl) (setCells_size g vs 0 w))
def qX(hw:bz o (yielded ops a.tmps)=true)(ty:dH)(x y:Operand)(ho:o.op=.store ty x y)(g b:Nat)(X:a.eval x=.pointer (some ⟨g,b,none⟩))(vs:List E)(hy:a.eval y=aZ vs.toArray)(hB:eL w g t cs)(hl:b+vs.length<=cs.size)(I:vs.all (λv=>v.oneCell')=true)(hi:(P.info? ty).map (·.size)=some vs.toArray.size){cs':aP}(hc:cs'=(cs.toList.take b++vs++cs.toList.drop (b+vs.length)).toArray)
 (h:∀O,eL O g t cs'->dP (λb=>b=g) w O->(O:Nat)=(w:Nat)->wpList P ops aes rest (a.put o.dst undef) O):wpList P ops aes (o::rest) a w:=
 uc hw ty x y ho g b X vs hy hB hl (by simpa using I) hi (h _ (hc▸hB.part b vs hl) (vq g b vs w) (setCells_size g vs b w))
def pg(hw:bz o (yielded ops a.tmps)=true)(eM:(execOp a.eval o).run P w=.ok (.value v) O)(h:wpList P ops aes rest (a.put o.dst v) O):wpList P ops aes (o::rest) a w:=by unfold wpList;rw[aA hw];refine .inl ?_;unfold Oper.wp;simp only[eM];exact h
def kJ(hw:bz o (yielded ops a.tmps)=true)(eM:(execOp a.eval o).run P w=.ok (.value ((((w:Nat),0):E))) (w.alloc (.cells cs t)))
 (h:∀g O,eL O g t cs->Grow w O->(w:Nat)=g->(O:Nat)=g+1->wpList P ops aes rest (a.put o.dst (((g:Nat):E))) O):wpList P ops aes (o::rest) a w:=
 pg hw eM (h _ _ (eL.made w t cs) ((Below.refl _ w).alloc (bh _) _) rfl (by simp))
def fF{fn:Func}{p:Tmp}(h:fn.results=#[.cell p ty])(tmps:aP)(g:Nat)(hp:tmps.getD p undef=(g:E))(hB:eL w g t cs){fs:Array Field}(hu:P.underlying ty=some (.struct fs))(hi:(P.info? ty).map (·.size)=some cs.size):(results fn tmps).run P w=.ok (aZ cs) w:=results_cell_row h tmps w g t cs (0,0) _ hp hB hu rfl hi
def ej{fn:Func}{p q:Tmp}(h:fn.results=#[.cell p ty,.tmp q])(tmps:aP)(g:Nat)(hp:tmps.getD p undef=(g:E))(hB:eL w g t cs){fs:Array Field}(hu:P.underlying ty=some (.struct fs))(hi:(P.info? ty).map (·.size)=some cs.size):(results fn tmps).run P w=.ok (a_ #[aZ cs,tmps.getD q undef]) w:=by
 have XJ:tmps[p]?.getD undef=(g:E):=by simpa using hp
 simp[results,h,XJ,asAddr,run_loadVar_row w g t ty cs (0,0) _ hB hu rfl hi]
def eL.fill(h:eL w g t cs)(vs:List E)(hl:vs.length=cs.size):eL (w.setCells g 0 vs) g t vs.toArray:=h.all vs hl
def vr(b:Nat)(vs:List E)(w:G):dP (λx=>x=b) w (w.setCells b 0 vs):=dP.jW (i5 b vs 0 w) rfl
end
section
theorem uf(w:G)(b k:Nat)(ty:dH)(v:E)(hc:(w.cell? ⟨b,k,none⟩).isSome=true)(hf:w.frozen? ⟨b,k,none⟩=false)(hi:(P.info? ty).map (·.size)=some 1)(I:v.oneCell'=true):(storeVar ty ⟨b,k,none⟩ v).run P w=.ok () (w.setCell ⟨b,k,none⟩ v):=by
 have ko:v.cells=#[v]:=by cases v<;>first|rfl|cases I
 have:=run_storeCells_cells (P:=P) b k [v] 0 w (λj hj=>by simp at hj;subst hj;simpa using hc) (λj hj=>by simp at hj;subst hj;simpa using hf) (λx X=>by simp at X;subst X;exact I);cases hq:P.info? ty with
 | none=>simp[hq] at hi
 | some i=>
   have hs:1=i.size:=by simp[hq] at hi;omega
   simp only[Nat.add_zero] at this;simp[storeVar,sizeOf,typeInfo,hq,ko,<-hs] at this ⊢;simpa [World.setCells] using this
def Fg(hw:bz o (yielded ops a.tmps)=true)(ty:dH)(x y:Operand)(ho:o.op=.store ty x y)(g b:Nat)(X:a.eval x=.pointer (some ⟨g,b,none⟩))(v:E)(hy:a.eval y=v)(hB:eL w g t cs)(hl:b<cs.size)(I:v.oneCell'=true)(hi:(P.info? ty).map (·.size)=some 1)
 (h:∀O,Hid (O=w.setCell ⟨g,b,none⟩ v)->wpList P ops aes rest (a.put o.dst undef) O):wpList P ops aes (o::rest) a w:=by unfold wpList;rw[aA hw];refine .inl ?_;unfold Oper.wp execOp;simp only[ho,X,hy,Instr.storeAt,Instr.sureAddr,Sem.run_bind,Sem.run_pure,Result.andThen_ok,uf w g b ty v (by rw[hB.cell,Array.getElem?_eq_getElem hl];rfl) (hB.frozen _) hi I];exact h _ rfl
end
section
variable{l:List Bl}
def St.grown{l:List Bl}(h:St (λ_=>False) w0 l w):Grow w0 w:=h.just.below (λ_ K=>K.elim False.elim id) (bh _)
def fB(L:St V w0 l w)(i:Nat)(hi:l[i]?=some (.c g t cs))(ty:dH)(x y:Operand)(ho:o.op=.store ty x y)(b:Nat)(X:a.eval x=.pointer (some ⟨g,b,none⟩))(v:E)(hy:a.eval y=v)(hl:b<cs.size)(I:v.oneCell'=true)(hi1:(P.info? ty).map (·.size)=some 1)(hw:bz o (yielded ops a.tmps)=true)
 (h:∀O,St V w0 (l.set i (.c g t (cs.setIfInBounds b v))) O->wpList P ops aes rest (a.put o.dst undef) O):wpList P ops aes (o::rest) a w:=
 Fg hw ty x y ho g b X v hy (L.blk i hi) hl I hi1 λO e=>by rw[e.out];exact h _ (L.put i hi b v)
def er(L:St V w0 l w)(i:Nat)(hi:l[i]?=some (.c g t cs))(ty:dH)(x y:Operand)(ho:o.op=.store ty x y)(b:Nat)(X:a.eval x=.pointer (some ⟨g,b,none⟩))(vs:List E)(hy:a.eval y=aZ vs.toArray)(hl:b+vs.length<=cs.size)(I:vs.all (λv=>v.oneCell')=true)(hi1:(P.info? ty).map (·.size)=some vs.toArray.size)(cs':aP)(hc:cs'=(cs.toList.take b++vs++cs.toList.drop (b+vs.length)).toArray)(hw:bz o (yielded ops a.tmps)=true)
 (h:∀O,St V w0 (l.set i (.c g t cs')) O->wpList P ops aes rest (a.put o.dst undef) O):wpList P ops aes (o::rest) a w:=
 qX hw ty x y ho g b X vs hy (L.blk i hi) hl I hi1 hc λO hB hj _=>h O (L.turned i hi hj hB)
def ln(L:St V w0 l w)(i:Nat)(hi:l[i]?=some (.c g t cs))(ty:dH)(x:Operand)(ho:o.op=.load ty x)(X:a.eval x=(g:E)){fs:Array Field}(hu:P.underlying ty=some (.struct fs))(hi1:(P.info? ty).map (·.size)=some cs.size)(hw:bz o (yielded ops a.tmps)=true)
 (h:wpList P ops aes rest (a.put o.dst (aZ cs)) w):wpList P ops aes (o::rest) a w:=d_ hw ty x ho g X (L.blk i hi) hu hi1 h
end
def Dn:fx:={ aeo:=λa b=>b=a,aeq:=λ_ _ _=>False,aej:=λ_ _=>True,muts:=[],stage:=λ_=>none,q:=Ba.still }
def MG:Dn.Ok:=⟨λ_ _ _ h k=>k.trans h,λ_ _ h=>h.symm,λ_ _ _ h=>h.elim,λ_ _ _ _ _=>trivial⟩
def Res(a:dK)(o:dJ)(aer:dK->Prop)(w:G):Result Next->Prop
 | .ok (.value v) O=>O=w∧aer (a.put o.dst v)
 | _=>False
def MH:Res a o aer w (.ok (.value v) O)=(O=w∧aer (a.put o.dst v)):=rfl
attribute [go_sem] MH
section
variable{aeq:dK->Prop}{l:List dJ}
def ki(P:dI)(ops:Array dJ)(aeq:dK->Prop):List dJ->dK->G->Prop
 | [],a,_=>aeq a
 | o::l,a,w=>if bz o (yielded ops a.tmps)=true then Res a o (λa'=>ki P ops aeq l a' w) w ((execOp a.eval o).run P w) else ki P ops aeq l (a.put o.dst undef) w
def vt(h:aeq a):ki P ops aeq [] a w:=h
def xU(H:o.guard=none)(h:∀aer:dK->Prop,(∀a',ki P ops aeq l a' w->aer a')->Res a o aer w ((execOp a.eval o).run P w)):ki P ops aeq (o::l) a w:=by unfold ki;rw[aA (by simp[bz,H])];exact h _ λ_ h=>h
def Po(hw:bz o (yielded ops a.tmps)=true)(h:∀aer:dK->Prop,(∀a',ki P ops aeq l a' w->aer a')->Res a o aer w ((execOp a.eval o).run P w)):ki P ops aeq (o::l) a w:=by unfold ki;rw[aA hw];exact h _ λ_ h=>h
def MI(hw:bz o (yielded ops a.tmps)=false)(h:ki P ops aeq l (a.put o.dst undef) w):ki P ops aeq (o::l) a w:=by unfold ki;rw[aB (by rw[hw];exact cj)];exact h
theorem Fh{w0:G}{A:Nat->List Nat}{R:dK->G->Prop}:∀(l:List dJ)(j:Nat)(a:dK),ki P ops (λa'=>R a' w0) l a w0->ii P ops A (λ_=>none) Dn w0 R l j a []
 | [],_,_,h=>λw1 H _ _=>by
   have e:w1=w0:=H;rw[e];exact h
 | o::l,j,a,h=>by
   have ih:=Fh (R:=R) (w0:=w0) (A:=A) l (j+1);unfold ki at h;unfold ii;split at h
   ·rename_i hw
    rw[aA hw];cases hr:(execOp a.eval o).run P w0 with
    | ok n O=>
      rw[hr] at h;cases n with
      | value v=>
        obtain⟨rfl,Z⟩:=h;exact⟨v,λk w1 H _ _=>by have e:w1=O:=H;subst e;exact⟨w1,hr,by unfold fx.behind;exact rfl⟩,ih _ Z⟩
      | _=>exact h.elim
    | halt _ _=>rw[hr] at h;exact h.elim
   ·rename_i hw
    rw[aB hw];exact⟨rfl,ih _ h⟩
def vu(k m:Nat)(hA:qP ops (kz ops)=true)(mT:tU ops.size (kz ops) k m=true)(h:ki P ops (λa'=>tV P ops aes m a' w) ((ops.toList.take m).drop k) a w):tV P ops aes k a w:=by refine IG Dn MG k m [] hA mT (by simp[nJ,Dn]) (λx X=>by cases X) (w0:=w) rfl trivial ?_;exact Fh (A:=kz ops) (R:=tV P ops aes m) _ k a h
end
attribute [irreducible] ki
section
variable{α:Type}(e size:Nat)(cells:α->List E)(good:G->(Nat->Prop)->α->Prop)
def mr:Prop:=∀(w O:G)(D:aV)(a:α),good w D a->(∀b,D b->O.heap[b]?=w.heap[b]?)->good O D a
def iG(u:E)(q:List α):ei:=λw V=>∃R D:aV,Own w R e size u q.length (q.flatMap cells)∧(∀b∈q,good w D b)∧(∀b,R b->V b∧¬ D b)∧(∀b,D b->V b)
variable{e size cells good}
def iG.framed(hG:mr good)(u:E)(q:List α):eQ (iG e size cells good u q):=λw O V ⟨R,D,I,Z,T,h4⟩ K=>
 ⟨R,D,I.keep λb hb=>K b (T b hb).1,λb hb=>hG _ _ _ _ (Z b hb) λx X=>K x (h4 x X),T,h4⟩
theorem iG.nil(w:G)(V:aV):iG e size cells good (Y none 0 0) [] w V:=⟨λ_=>False,λ_=>False,Own.nil,by simp,λ_ h=>h.elim,λ_ h=>h.elim⟩
def iG.sl{u:E}{q:List α}{w:G}{V:aV}(h:iG e size cells good u q w V):∃A c,u=Y A q.length c∧q.length<=c∧c<=dL:=by obtain⟨R,D,I,_⟩:=h;obtain⟨A,c,Z,_,T⟩:=I.reads;exact⟨A,c,Z,T⟩
theorem iG.kB(hM:iQ good){u:E}{q:List α}{w:G}{V:aV}(h:iG e size cells good u q w V):∃A c,u=Y A q.length c∧In w V size A q.length (q.flatMap cells)∧(∀b∈q,good w V b)∧q.length<=c∧c<=dL:=by obtain⟨R,D,I,Z,T,h4⟩:=h;obtain⟨A,c,rfl,h6,h7,h8⟩:=I.kB;exact⟨A,c,rfl,h6.mono λb hb=>(T b hb).1,λb hb=>hM _ _ _ _ (Z b hb) h4,h7,h8⟩
variable{t:Nat}{l:List Bl}{q:List α}
theorem St.sl(h:St V w0 (.o (iG e size cells good u q)::l) w):∃A c,u=Y A q.length c∧q.length<=c∧c<=dL:=by obtain⟨U,hU,_⟩:=h.own.see 0 rfl;exact iG.sl (show iG e size cells good u q w U from hU)
def St.app(aep:Elem P t e size bytes z)(hG:mr good)(hM:iQ good)(hl:∀a,(cells a).length=size)(n_:∀a,∀u∈cells a,u.oneCell'=true)
 (h:St V w0 (.o (iG e size cells good u q)::l) w) (H:Grow w w1) {b:α} (hb:good w1 (New w w1) b) (fC:(q.length+1)*bytes<=140737488355328) (ty:dH) (c:Nat):∃v' O,(cA #[t,t] ty #[u,Y (some ⟨(w1:Nat),0,none⟩) 1 c]).run P (w1.alloc (.cells (cells b).toArray e))=.ok v' O∧St V w0 (.o (iG e size cells good v' (q++[b]))::l) O:=by
 obtain⟨⟨h0,V1,⟨U1,U2,⟨R,D,I,Z,T,h4⟩,hB,k1,k2,k3⟩,hV⟩,hj,ho,fM⟩:=h;have fN:Grow w1 (w1.alloc (.cells (cells b).toArray e)):=fc _ _;have fA:=H.trans fN;have sE:Reads (w1.alloc (.cells (cells b).toArray e)) ((w1:Nat)+1) size (some ⟨(w1:Nat),0,none⟩) 1 (cells b):=by have:=fO w1 (cells b).toArray e (0,0) (n:=1) (size:=size) (by simp[hl]) _ rfl;simpa using this
 have lO:∀x,R x->x<(w:Nat):=λx X=>(hV x (k1 x (T x X).1)).2;have a4m:∀x,D x->x<(w:Nat):=λx X=>(hV x (k1 x (h4 x X))).2;obtain⟨v',O,eM,hO,mc⟩:=jK aep _ ty u q.length (q.flatMap cells) (I.keep λx X=>fA.block x (lO x X)) _ _ 1 c (cells b) sE (n_ b) fC;have s1:=H.size;have s2:(w1.alloc (.cells (cells b).toArray e)).heap.size=(w1:Nat)+1:=fy _ _;have s3:=mc.size;rw[s2] at s3;have hold:∀x,x<(w:Nat)->¬ R x->O.heap[x]?=w.heap[x]?:=λx X hr=>(mc.block x ap hr).trans (fA.block x X);refine⟨v',O,eM,⟨⟨λx X=>h0 x ap,λx=>V1 x∨New w O x,⟨λx=>U1 x∨New w O x,U2,⟨ju R (w1.alloc (.cells (cells b).toArray e)) O,λx=>D x∨New w w1 x,?_,λa ha=>?_,λx X=>?_,λx X=>?_⟩,?_,λx X=>X.imp (k1 x) id,λx X => .inl (k2 x X),λx X Z=>?_⟩,λx X=>?_⟩,?_,⟨iG.framed hG _ _,ho.2⟩,fM⟩⟩
 ·rw[bO,bN,cI,bm,bd]
  exact hO
 ·rcases List.mem_append.1 ha with ha|ha
  ·exact hM _ D _ _ (hG w O D a (Z a ha) λx X=>hold x (a4m x X) λhr=>(T x hr).2 X) λ_ => .inl
  ·rw[List.mem_singleton.1 ha]
   exact hM _ (New w w1) _ _ (hG w1 O _ b hb λx X=>(mc.block x (by have:=X.2;omega) λhr=>by have:=lO x hr;have:=X.1;omega).trans (fN.block x X.2)) λ_ => .inr
 ·rcases X with X|⟨sU,me⟩
  ·exact⟨.inl (T x X).1,λhd=>hd.elim (T x X).2 λhd=>by have:=lO x X;have:=hd.1;omega⟩
  ·rw[s2] at sU
   exact⟨.inr ⟨by omega,me⟩,λhd=>hd.elim (λhd=>by have:=a4m x hd;omega) λhd=>by have:=hd.2;omega⟩
 ·rcases X with X|X
  ·exact .inl (h4 x X)
  ·exact .inr ⟨X.1,by have:=X.2;omega⟩
 ·exact dU.framed _ (f_ ho.2) w O U2 hB λx X=>hold x (hV x (k2 x X)).2 λhr=>k3 x (T x hr).1 X
 ·rcases X with X|X
  ·exact k3 x X Z
  ·have:=(hV x (k2 x Z)).2;have:=X.1;omega
 ·rcases X with X|X
  ·exact⟨(hV x X).1,by have:=(hV x X).2;omega⟩
  ·exact⟨h0 x X.1,X.2⟩
 ·exact (hj.trans (dP.dR fA)).trans (mc.imp λx X=>(hV x (k1 x (T x X).1)).1)
def lP(aep:Elem P t e size bytes z)(hG:mr good)(hM:iQ good)(hl:∀a,(cells a).length=size)(n_:∀a,∀u∈cells a,u.oneCell'=true)(hw:bz o (yielded ops a.tmps)=true)(s x:Operand)
 (ho:o.op=.call { callee := .builtin .append,args:=#[s,x],argTypes:=#[t,t] }) (hs:a.eval s=u) (h:St V w0 (.o (iG e size cells good u q)::l) w) (H:Grow w w1) {b:α} (hb:good w1 (New w w1) b) (fC:(q.length+1)*bytes<=140737488355328) (c:Nat)
 (X:a.eval x=Y (some ⟨(w1:Nat),0,none⟩) 1 c)
 (K:∀v' O,St V w0 (.o (iG e size cells good v' (q++[b]))::l) O->wpList P ops aes rest (a.put o.dst v') O):wpList P ops aes (o::rest) a (w1.alloc (.cells (cells b).toArray e)):=by obtain⟨v',O,eM,Z⟩:=h.app aep hG hM hl n_ H hb fC o.type c;unfold wpList;rw[aA hw];refine .inl ?_;unfold Oper.wp execOp;simp only[ho,resolve,invoke,builtin,Sem.run_bind,Sem.run_pure,Result.andThen_ok,cZ,bX,cS,hs,X,eM];exact K v' O Z
end
def St.step{a b a2:List Bl}(h:St V w0 (a++b) w)(ha2:qD a2)(kc:∀U1:aV,dU (qv a) w U1->(∀x,U1 x->x<(w:Nat))->dU (qv a2) O (ju U1 w O)∧dP U1 w O):St V w0 (a2++b) O:=by
 obtain⟨⟨h0,V1,hM,hV⟩,hj,ho,fM⟩:=h;rw[ll] at hM;obtain⟨U1,U2,hA,hB,k1,k2,k3⟩:=dU.app _ hM;obtain⟨o8,mc⟩:=kc U1 hA λx X=>(hV x (k1 x X)).2;refine⟨⟨λx X=>h0 x (bA mc.size X),ju V1 w O,?_,λx X=>?_⟩,hj.trans (mc.imp λx X=>(hV x (k1 x X)).1),mj ha2 (jX ho),fM⟩
 ·rw[ll]
  refine dU.flat _ ⟨ju U1 w O,U2,o8,dU.framed _ (f_ (jX ho)) w O U2 hB λx X=>mc.block x (hV x (k2 x X)).2 λI=>k3 x I X,λx X=>?_,λx X => .inl (k2 x X),λx X Z=>?_⟩
  ·rcases X with X|X
   ·exact .inl (k1 x X)
   ·exact .inr X
  ·rcases X with X|X
   ·exact k3 x X Z
   ·have:=(hV x (k2 x Z)).2;have:=X.1;omega
 ·rcases X with X|X
  ·exact⟨(hV x X).1,bu (hV x X).2 mc.size⟩
  ·exact⟨h0 x X.1,X.2⟩
section
variable{D:aV}{f:FuncId}{ι:Type}{x:Bl}{C:ι->Ending->Prop}{l a b:List Bl}{a':ι->List Bl}{p:Nat}{S:ei}{S':ι->ei}
def Lw.turns{C:Ending->Prop}{S':ei}(h:j9 P f args C S S' w):Lw P D f args [.o S] (λ(_:Unit)e=>C e) (λ_=>[.o S']) w:=λV hM hV=>by obtain⟨U,_,L,_,k1,_⟩:=hM;exact (h U L λb hb=>(hV b (k1 b hb)).1).mono λe O ⟨hC,AL,hj⟩=>⟨(),hC,dU.wide [S'] O _ _ (λb hb=>hb.imp (k1 b) id) ⟨_,λ_=>False,AL,trivial,λ_ h=>h,λ_ h=>h.elim,λ_ _ h=>h⟩,hj.imp k1⟩
def yE(h:dU (qv l) w U)(i:Nat)(hi:l[i]?=some (.c p t cs)):U p∧eL w p t cs:=by obtain⟨U',hU,hs⟩:=(dU.pick _ i _ (iV hi) h).fst;exact⟨hs p hU.1,hU.2⟩
def oI(h:dU (qv l) w U)(i:Nat)(hi:l[i]?=some (.o S)):∃U':aV,S w U'∧∀b,U' b->U b:=(dU.pick _ i _ (iV hi) h).fst
def St.qw(h:St V w0 (a++b) w)(WL:∀i,qD (a' i))(hD:∀y,D y->y<(w:Nat)->¬ pd V w0 y)(hc:∀U:aV,dU (qv b) w U->(∀y,U y->y<(w:Nat))->Lw P (λy=>U y∨D y) f args a C a' w):dF P f args w λe O=>∃i,C i e∧St V w0 (a' i++b) O:=by
 obtain⟨⟨h0,V1,hM,hV⟩,hj,ho,fM⟩:=h;rw[ll] at hM;obtain⟨U1,U2,hA,hB,k1,k2,k3⟩:=dU.app _ hM;refine (hc U2 hB (λy hy=>(hV y (k2 y hy)).2) U1 hA λy hy=>⟨(hV y (k1 y hy)).2,λhd=>hd.elim (k3 y hy) λhd=>hD y hd (hV y (k1 y hy)).2 (hV y (k1 y hy)).1⟩).mono λe O ⟨i,hC,o8,mc⟩=>⟨i,hC,⟨⟨λy hy=>h0 y (bA mc.size hy),ju V1 w O,?_,λy hy=>?_⟩,hj.trans (mc.imp λy hy=>(hV y (k1 y hy)).1),mj (WL i) (jX ho),fM⟩⟩
 ·rw[ll]
  refine dU.flat _ ⟨ju U1 w O,U2,o8,dU.framed _ (f_ (jX ho)) w O U2 hB λy hy=>mc.block y (hV y (k2 y hy)).2 λI=>k3 y I hy,λy hy=>hy.imp (k1 y) id,λy hy => .inl (k2 y hy),λy hy Z=>?_⟩;rcases hy with hy|hy
  ·exact k3 y hy Z
  ·have:=(hV y (k2 y Z)).2;have:=hy.1;omega
 ·rcases hy with hy|hy
  ·exact⟨(hV y hy).1,bu (hV y hy).2 mc.size⟩
  ·exact⟨h0 y hy.1,hy.2⟩
def St.Il(h:St V w0 l w)(i:Nat)(hi:l[i]?=some (.o S))(hF:∀k,eQ (S' k))(hD:∀y,D y->y<(w:Nat)->¬ pd V w0 y)(hc:∀U:aV,dU (qv (l.eraseIdx i)) w U->(∀y,U y->y<(w:Nat))->Lw P (λy=>U y∨D y) f args [.o S] C (λk=>[.o (S' k)]) w):dF P f args w λe O=>∃k,C k e∧St V w0 (l.set i (.o (S' k))) O:=(St.qw (a:=[.o S]) (a':=λk=>[.o (S' k)]) (b:=l.eraseIdx i) (h.front i hi) (λk=>⟨hF k,trivial⟩) hD hc).mono λe O ⟨k,hC,L⟩=>⟨k,hC,L.perm (iZ hi).symm⟩
def MJ{α:Type}(x:α)(l:List α)(k:Nat):(x::l).Perm (l.take k++x::l.drop k):=by have h:(l.take k++x::l.drop k).Perm (x::(l.take k++l.drop k)):=List.perm_middle;rw[dA] at h;exact h.symm
def St.back(h:St V w0 (x::l) w)(k:Nat):St V w0 (l.take k++x::l.drop k) w:=h.perm (MJ x l k)
def St.no(h:St V w0 l w):∀y,(λ_=>False) y->y<(w:Nat)->¬ pd V w0 y:=λ_ h=>h.elim
end
section
variable{e size:Nat}{l:List Bl}
def fT(e size:Nat)(u:E)(n:Nat)(xs:List E):ei:=λw V=>Row w V e size u n xs
def fT.framed(e size:Nat)(u:E)(n:Nat)(xs:List E):eQ (fT e size u n xs):=λ_ _ _ h K=>Row.keep h λb hb _=>K b hb
def fT.oJ(h:St V w0 l w)(i:Nat)(hi:l[i]?=some (.o (fT e size u n xs))):∃A c,u=Y A n c∧n<=c∧c<=dL:=by obtain⟨U,hU,_⟩:=h.own.see i (iV hi);obtain⟨A,c,I,_,Z⟩:=Row.kB hU;exact⟨A,c,I,Z⟩
def fT.sl(h:St V w0 (.o (fT e size u n xs)::l) w):∃A c,u=Y A n c∧n<=c∧c<=dL:=by obtain⟨U,hU,_⟩:=h.own.see 0 rfl;obtain⟨A,c,I,_,Z⟩:=Row.kB hU;exact⟨A,c,I,Z⟩
def St.a6F{t:Nat}(aep:Elem P t e size bytes z)(h:St V w0 (.o (fT e size u n xs)::l) w)(hr:Reads w B size A m news)(I:∀u∈news,u.oneCell'=true)(fC:(n+m)*bytes<=140737488355328)(ty:dH)(c:Nat):∃v' O,(cA #[t,t] ty #[u,Y A m c]).run P w=.ok v' O∧St V w0 (.o (fT e size v' (n+m) (xs++news))::l) O:=by
 obtain⟨⟨h0,V1,⟨U1,U2,W,hB,k1,k2,k3⟩,hV⟩,hj,ho,fM⟩:=h;obtain⟨v',O,eM,hO,mc⟩:=nM aep w ty u n xs W B A m c news hr I fC;have s3:=mc.size;refine⟨v',O,eM,⟨⟨λx X=>h0 x ap,ju V1 w O,⟨ju U1 w O,U2,hO,?_,λx X=>X.imp (k1 x) id,λx X => .inl (k2 x X),λx X Z=>?_⟩,λx X=>?_⟩,hj.trans (mc.imp λx X=>(hV x (k1 x X)).1),⟨fT.framed _ _ _ _ _,ho.2⟩,fM⟩⟩;·exact dU.framed _ (f_ ho.2) w O U2 hB λx X=>mc.block x (hV x (k2 x X)).2 λhr=>k3 x hr X
 ·rcases X with X|X
  ·exact k3 x X Z
  ·have:=(hV x (k2 x Z)).2;have:=X.1;omega
 ·rcases X with X|X
  ·exact⟨(hV x X).1,by have:=(hV x X).2;omega⟩
  ·exact⟨h0 x X.1,X.2⟩
def iw{t:Nat}(aep:Elem P t e size bytes z)(hw:bz o (yielded ops a.tmps)=true)(s x:Operand)
 (ho:o.op=.call { callee := .builtin .append,args:=#[s,x],argTypes:=#[t,t] }) (hs:a.eval s=u) (h:St V w0 (.o (fT e size u n xs)::l) w) {B:Nat} {A:aU} {m c:Nat} {news:List E} (X:a.eval x=Y A m c) (hr:Reads w B size A m news) (I:∀u∈news,u.oneCell'=true) (fC:(n+m)*bytes<=140737488355328)
 (K:∀v' O,St V w0 (.o (fT e size v' (n+m) (xs++news))::l) O->wpList P ops aes rest (a.put o.dst v') O):wpList P ops aes (o::rest) a w:=by obtain⟨v',O,eM,Z⟩:=h.a6F aep hr I fC o.type c;unfold wpList;rw[aA hw];refine .inl ?_;unfold Oper.wp execOp;simp only[ho,resolve,invoke,builtin,Sem.run_bind,Sem.run_pure,Result.andThen_ok,cZ,bX,cS,hs,X,eM];exact K v' O Z
def fT.shape(h:St V w0 (.o (fT e size u n xs)::l) w)(hn:0<n):∃g c,u=Y (some ⟨g,0,none⟩) n c∧n<=c∧c<=dL:=by
 obtain⟨U,hU,_⟩:=h.own.see 0 rfl;obtain⟨_,h0|⟨g,c,cur,he,_,_,I,Z,_⟩⟩:=(show Row w U e size u n xs from hU);·omega
 ·exact⟨g,c,he,I,Z⟩
def fT.at_{g c:Nat}(h:St V w0 (.o (fT e size (Y (some (g,0)) n c) n xs)::l) w):(∀j,j<n*size->w.cell? ⟨g,j,none⟩=xs[j]?)∧∀j,w.frozen? ⟨g,j,none⟩=false:=by
 obtain⟨U,hU,_⟩:=h.own.see 0 rfl;obtain⟨hl,h0|⟨g',cap,cur,he,hV,H,lx,jg,ko,jA⟩⟩:=(show Row w U e size (Y (some (g,0)) n c) n xs from hU);·injection h0.1 with I;cases I
 injection he with I _ T;injection I with I;injection I with I;subst I T;have hB:eL w g e cur:=H;exact⟨λj hj=>by rw[hB.cell,<-jA,List.getElem?_take,aA hj,Array.getElem?_toList],λj=>hB.frozen j⟩
theorem Row.put{g c:Nat}{w:G}{V:aV}(h:Row w V e size (Y (some (g,0)) n c) n xs)(j:Nat)(v:E):Row (w.setCell ⟨g,j,none⟩ v) V e size (Y (some (g,0)) n c) n (xs.set j v):=by
 obtain⟨hl,h0|⟨g',cap,cur,he,hV,H,lx,jg,ko,jA⟩⟩:=h;·injection h0.1 with I;cases I
 injection he with I _ T;injection I with I;injection I with I;subst I T;have hB:eL w g e cur:=H;exact⟨by rw[dq];exact hl,.inr ⟨g,c,_,rfl,hV,hB.put j v,lx,jg,by rw[Array.size_setIfInBounds];exact ko,by rw[<-jA,Array.toList_setIfInBounds,List.take_set]⟩⟩
def St.a6G(h:St V w0 (.o (fT e size (Y (some (g,0)) n c) n xs)::l) w)(j:Nat)(v:E):St V w0 (.o (fT e size (Y (some (g,0)) n c) n (xs.set j v))::l) (w.setCell ⟨g,j,none⟩ v):=by
 obtain⟨⟨h0,V1,⟨U1,U2,W,hB,k1,k2,k3⟩,hV⟩,hj,ho,fM⟩:=h;have H:U1 g:=by
  obtain⟨hl,h0|⟨g',cap,cur,he,hV,H,_⟩⟩:=(show Row w U1 e size (Y (some (g,0)) n c) n xs from W);·injection h0.1 with I;cases I
  injection he with I _ T;injection I with I;injection I with I;subst I;exact hV
 have mc:=mh w g j v;refine⟨⟨λx X=>h0 x (by rwa [gV] at X),V1,⟨U1,U2,Row.put W j v,dU.framed _ (f_ ho.2) w _ U2 hB λx X=>mc.block x (hV x (k2 x X)).2 λe=>k3 x (by rw[show x=g from e];exact H) X,k1,k2,k3⟩,λx X=>by rw[gV];exact hV x X⟩,hj.trans (mc.imp λx X=>by rw[show x=g from X];exact (hV g (k1 g H)).1),⟨fT.framed _ _ _ _ _,ho.2⟩,fM⟩
end
section
variable{α:Type}{e size:Nat}{cells:α->List E}{good:G->(Nat->Prop)->α->Prop}
variable{t:Nat}{l:List Bl}{u2:E}{q q2:List α}
def Pp(n_:∀a,∀u∈cells a,u.oneCell'=true)(q:List α):∀u∈q.flatMap cells,u.oneCell'=true:=λu hu=>by obtain⟨a,_,ha⟩:=List.mem_flatMap.1 hu;exact n_ a u ha
def St.cat(aep:Elem P t e size bytes z)(hG:mr good)(hM:iQ good)(n_:∀a,∀u∈cells a,u.oneCell'=true)
 (h:St V w0 (.o (iG e size cells good u q)::.o (iG e size cells good u2 q2)::l) w) (fC:(q.length+q2.length)*bytes<=140737488355328) (ty:dH):∃v' O,(cA #[t,t] ty #[u,u2]).run P w=.ok v' O∧St V w0 (.o (iG e size cells good v' (q++q2))::l) O:=by
 obtain⟨⟨h0,V1,⟨U1,U2,⟨R,D,I,Z,T,h4⟩,⟨U3,U4,⟨R2,D2,g1,g2,g3,g4⟩,hB,m1,m2,m3⟩,k1,k2,k3⟩,hV⟩,hj,ho,fM⟩:=h;obtain⟨A,c,rfl,sE,_,_⟩:=g1.reads;obtain⟨v',O,eM,hO,mc⟩:=jK aep w ty u q.length (q.flatMap cells) I (w:Nat) A q2.length c (q2.flatMap cells) sE (Pp n_ q2) fC;have s3:=mc.size;have hold:∀x,x<(w:Nat)->¬ R x->O.heap[x]?=w.heap[x]?:=λx X hr=>mc.block x X hr;have lt1:∀x,U1 x->x<(w:Nat):=λx X=>(hV x (k1 x X)).2;have lt2:∀x,U2 x->x<(w:Nat):=λx X=>(hV x (k2 x X)).2;refine⟨v',O,eM,⟨⟨λx X=>h0 x ap,λx=>V1 x∨New w O x,⟨λx=>U1 x∨U3 x∨New w O x,U4,⟨ju R w O,λx=>D x∨D2 x,?_,λa ha=>?_,λx X=>?_,λx X=>?_⟩,?_,λx X=>?_,λx X => .inl (k2 x (m2 x X)),λx X h5=>?_⟩,λx X=>?_⟩,?_,⟨iG.framed hG _ _,ho.2.2⟩,fM⟩⟩
 ·rw[bO,bd]
  exact hO
 ·rcases List.mem_append.1 ha with ha|ha
  ·exact hM _ D _ _ (hG w O D a (Z a ha) λx X=>hold x (lt1 x (h4 x X)) λhr=>(T x hr).2 X) λ_ => .inl
  ·exact hM _ D2 _ _ (hG w O D2 a (g2 a ha) λx X=>hold x (lt2 x (m1 x (g4 x X))) λhr=>k3 x (T x hr).1 (m1 x (g4 x X))) λ_ => .inr
 ·rcases X with X|⟨sU,me⟩
  ·exact⟨.inl (T x X).1,λhd=>hd.elim (T x X).2 λhd=>k3 x (T x X).1 (m1 x (g4 x hd))⟩
  ·exact⟨.inr (.inr ⟨sU,me⟩),λhd=>hd.elim (λhd=>by have:=lt1 x (h4 x hd);omega) λhd=>by have:=lt2 x (m1 x (g4 x hd));omega⟩
 ·rcases X with X|X
  ·exact .inl (h4 x X)
  ·exact .inr (.inl (g4 x X))
 ·exact dU.framed _ (f_ ho.2.2) w O U4 hB λx X=>hold x (lt2 x (m2 x X)) λhr=>k3 x (T x hr).1 (m2 x X)
 ·rcases X with X|X|X
  ·exact .inl (k1 x X)
  ·exact .inl (k2 x (m1 x X))
  ·exact .inr X
 ·rcases X with X|X|X
  ·exact k3 x X (m2 x h5)
  ·exact m3 x X h5
  ·have:=lt2 x (m2 x h5);have:=X.1;omega
 ·rcases X with X|X
  ·exact⟨(hV x X).1,by have:=(hV x X).2;omega⟩
  ·exact⟨h0 x X.1,X.2⟩
 ·exact hj.trans (mc.imp λx X=>(hV x (k1 x (T x X).1)).1)
def yF(aep:Elem P t e size bytes z)(hG:mr good)(hM:iQ good)(n_:∀a,∀u∈cells a,u.oneCell'=true)(hw:bz o (yielded ops a.tmps)=true)(s x:Operand)
 (ho:o.op=.call { callee := .builtin .append,args:=#[s,x],argTypes:=#[t,t] }) (hs:a.eval s=u) (X:a.eval x=u2) (h:St V w0 (.o (iG e size cells good u q)::.o (iG e size cells good u2 q2)::l) w) (fC:(q.length+q2.length)*bytes<=140737488355328)
 (K:∀v' O,St V w0 (.o (iG e size cells good v' (q++q2))::l) O->wpList P ops aes rest (a.put o.dst v') O):wpList P ops aes (o::rest) a w:=by obtain⟨v',O,eM,Z⟩:=h.cat aep hG hM n_ fC o.type;unfold wpList;rw[aA hw];refine .inl ?_;unfold Oper.wp execOp;simp only[ho,resolve,invoke,builtin,Sem.run_bind,Sem.run_pure,Result.andThen_ok,cZ,bX,cS,hs,X,eM];exact K v' O Z
end
def xq(R:E->dK->Prop)(a:dK)(o:dJ)(w:G):Result Next->Prop
 | .ok (.value v) O=>O=w∧R v (a.put o.dst v)
 | _=>False
def IR{R:E->dK->Prop}:xq R a o w (.ok (.value v) O)=(O=w∧R v (a.put o.dst v)):=rfl
attribute [go_sem] IR
def aM{r:Result Next}(h:∀R:E->dK->Prop,R v a'->xq R a o w r:=by intro R W;go_simp;exact W):∀R:E->dK->Prop,R v a'->xq R a o w r:=h
def a27(R:FuncId->Array E->Prop)(w:G):Result Next->Prop
 | .ok (.enter f args) O=>O=w∧R f args
 | _=>False
def IU{R:FuncId->Array E->Prop}{f:FuncId}:a27 R w (.ok (.enter f args) O)=(O=w∧R f args):=rfl
attribute [go_sem] IU
def KT(B:Nat)(t:dH)(cs:aP)(u:E)(w:G):Prop:=∃g,u=((g:Nat):E)∧eL w g t cs∧B<=g
def Bc(B:Nat)(t:dH)(cs:aP):jV (KT B t cs):=λ_ _ _ ⟨g,e,h,hb⟩ H=>⟨g,e,h.grow H,hb⟩
abbrev Facts:=List (Nat×E×Fact)
section
variable{A:Nat->List Nat}{aer:Nat->Kind}{l:List dJ}{F:Facts}
def s_(P:dI)(ops:Array dJ)(A:Nat->List Nat)(aer:Nat->Kind)(aeq:dK->G->Prop)(w0:G)(l:List dJ)(j:Nat)(a:dK)(F:Facts):Prop:=ii P ops A aer quiet w0 aeq l j a F
def KU(h:∀w,Grow w0 w->qN 0 F w->aeq a w):s_ P ops A aer aeq w0 [] j a F:=λw H _ hf=>h w H hf
def Ye(hw:bz o (yielded ops a.tmps)=true)(K:aer j=none)(h:∀w1,Grow w0 w1->∀R:E->dK->Prop,R v0 a'->xq R a o w1 ((execOp a.eval o).run P w1))(hl:s_ P ops A aer aeq w0 l (j+1) a' F):s_ P ops A aer aeq w0 (o::l) j a F:=by
 have key:∀w1,Grow w0 w1->(execOp a.eval o).run P w1=.ok (.value v0) w1∧a.put o.dst v0=a':=λw1 H=>by
  have I:=h w1 H (λv b=>v=v0∧b=a') ⟨rfl,rfl⟩;cases hr:(execOp a.eval o).run P w1 with
  | ok n O=>
    rw[hr] at I;cases n with
    | value v=>
      obtain⟨rfl,rfl,Z⟩:=I;exact⟨rfl,Z⟩
    | _=>exact I.elim
  | halt _ _=>rw[hr] at I;exact I.elim
 unfold s_ ii;rw[aA hw,K];refine⟨v0,λk w H _ _=>⟨w,(key w H).1,by unfold fx.behind;exact Grow.refl _⟩,?_⟩;rw[(key w0 (Grow.refl _)).2];exact hl
def Fi(H:o.guard=none)(K:aer j=none)(h:∀w1,Grow w0 w1->∀R:E->dK->Prop,R v0 a'->xq R a o w1 ((execOp a.eval o).run P w1))(hl:s_ P ops A aer aeq w0 l (j+1) a' F):s_ P ops A aer aeq w0 (o::l) j a F:=Ye (by simp[bz,H]) K h hl
def KV{φ:Fact}{b:E->dK}(hn:∀v(R:dK->Prop),R (b v)->R (a.put o.dst v))(H:o.guard=none)(K:aer j=some (.inr φ))(hr:∀k w1,Grow w0 w1->fR (A j) k F w1->eJ P (λu O=>Grow w1 O∧φ k u O) ((execOp a.eval o).run P w1))
 (hl:∀v,s_ P ops A aer aeq w0 l (j+1) (b v) ((j,v,φ)::F)):s_ P ops A aer aeq w0 (o::l) j a F:=by unfold s_ ii;rw[aA (by simp[bz,H]),K];exact⟨λk w H _ hf=>i9 rfl (hr k w H hf),λv=>hn v (λc=>ii P ops A aer quiet w0 aeq l (j+1) c ((j,v,φ)::F)) (hl v)⟩
def U8{b:E->dK}(hn:∀v(R:dK->Prop),R (b v)->R (a.put o.dst v))(H:o.guard=none)(K:aer j=some (.inr (λ_=>KT (w0:Nat) t cs)))(hr:∀w1:G,(execOp a.eval o).run P w1=.ok (.value ((((w1:Nat),0):E))) (w1.alloc (.cells cs t)))
 (hl:∀v,s_ P ops A aer aeq w0 l (j+1) (b v) ((j,v,λ_=>KT (w0:Nat) t cs)::F)):s_ P ops A aer aeq w0 (o::l) j a F:=
 KV hn H K (λ_ w1 eO _=>gC (hr w1) ⟨fc w1 _,_,rfl,eL.made w1 t cs,eO.size⟩) hl
theorem yG{f:FuncId}{φ:Fact}{b:E->dK}(hn:∀v(R:dK->Prop),R (b v)->R (a.put o.dst v))(H:o.guard=none)(K:aer j=some (.inr φ))(he:∀(w1:G)(R:FuncId->Array E->Prop),R f args->a27 R w1 ((execOp a.eval o).run P w1))(hr:∀k w1,Grow w0 w1->fR (A j) k F w1->dF P f args w1 (λe O=>∃u,e=b5 u∧Grow w1 O∧φ k u O))
 (hl:∀v,s_ P ops A aer aeq w0 l (j+1) (b v) ((j,v,φ)::F)):s_ P ops A aer aeq w0 (o::l) j a F:=
 KV hn H K (λk w1 eO hf=>by
  have I:=he w1 (λf' args'=>f'=f∧args'=args) ⟨rfl,rfl⟩;cases Z:(execOp a.eval o).run P w1 with
  | ok n O=>
    rw[Z] at I;cases n with
    | enter f' args'=>
      obtain⟨rfl,rfl,rfl⟩:=I;exact hr k _ eO hf
    | _=>exact I.elim
  | halt _ _=>rw[Z] at I;exact I.elim) hl
def KW(k m:Nat)(kinds:List (Nat×(E ⊕ Fact)))(hA:qP ops (kz ops)=true)(mT:tU ops.size (kz ops) k m=true)(sD:∀x∈kinds,∀φ,x.2=.inr φ->p9 quiet φ)
 (h:s_ P ops (kz ops) (λj=>kinds.lookup j) (tV P ops aes m) w ((ops.toList.take m).drop k) k a []):tV P ops aes k a w:=
 IG quiet F7 k m kinds hA mT (by simp[nJ,quiet]) sD (Grow.refl w) trivial h
def MK(h:jV φ):∀x∈[((k,.inr (λ_=>φ)):Nat×(E ⊕ Fact))],∀ψ,x.2=.inr ψ->p9 quiet ψ:=λx X ψ he=>by rw[List.mem_singleton.1 X] at he;cases he;exact gB h
end
section
variable{l:List Bl}
def St.made(h:St V w0 l w)(H:Grow w O)(hB:eL O g t cs)(hn:(w:Nat)<=g):St V w0 (.c g t cs::l) O:=⟨h.own.join (f_ h.ok) H (R:=Cell g t cs) (U:=λb=>b=g) ⟨rfl,hB⟩ (λb hb=>by rw[show b=g from hb];exact⟨hn,hB.lt⟩),h.just.trans (dP.dR H),⟨trivial,h.ok⟩,h.lt⟩
end
attribute [irreducible] s_
section
def iX(S:G->Prop)(n:Nat)(hn:ops.size-k=n)(h:wpAnyH P .any ops aes S n (iy ops.size k) a w):tV P ops aes k a w:=by unfold tV;rw[hn];exact wpAny_of_held _ _ _ _ h
def Ua(hi:ops[i]?=some o)(hs:cY ops=true)(hf:Region.free .any ops aev i=true)(hr:(cz .any ops aev).contains i=true)
 (hQ:∀c a w,aes (.panic c) (a.put o.dst v) w->aes (.panic c) a w) (hw:bz o (yielded ops a.tmps)=true) (I5:S w) (hy:∀w,S w->∀(R:E->dK->Prop),R v a'->xq R a o w ((execOp a.eval o).run P w)) (h:wpAnyH P .any ops aes S n (aev.setIfInBounds i true) a' w):wpAnyH P .any ops aes S (n+1) aev a w:=by
 have key:∀w1,S w1->(execOp a.eval o).run P w1=.ok (.value v) w1∧a.put o.dst v=a':=λw1 eC=>by
  have I:=hy w1 eC (λu b=>u=v∧b=a') ⟨rfl,rfl⟩;cases hr:(execOp a.eval o).run P w1 with
  | ok n O=>
    rw[hr] at I;cases n with
    | value u=>
      obtain⟨rfl,rfl,Z⟩:=I;exact⟨rfl,Z⟩
    | _=>exact I.elim
  | halt _ _=>rw[hr] at I;exact I.elim
 exact wpAnyH_take hi hs hf hr hQ (.inl ⟨hw,λw1 I=>(key w1 I).1⟩) I5 (by rw[(key w I5).2];exact h)
def held(i:Nat)(hi:ops[i]?=some o)(I5:S w)(hy:∀w,S w->∀(R:E->dK->Prop),R v a'->xq R a o w ((execOp a.eval o).run P w))(h:wpAnyH P .any ops aes S n (aev.setIfInBounds i true) a' w)
 (hs:cY ops=true:=by kernel_rfl) (hf:Region.free .any ops aev i=true:=by kernel_rfl) (hr:(cz .any ops aev).contains i=true:=by kernel_rfl)
 (hQ:∀c a w,aes (.panic c) (a.put o.dst v) w->aes (.panic c) a w:=by exact λ_ _ _ h=>h) (hw:bz o (yielded ops a.tmps)=true:=by kernel_rfl):wpAnyH P .any ops aes S (n+1) aev a w:=Ua hi hs hf hr hQ hw I5 hy h
def dW(i:Nat)(hi:ops[i]?=some o)(I5:S w)(h:wpAnyH P .any ops aes S n (aev.setIfInBounds i true) a' w)
 (hs:cY ops=true:=by kernel_rfl) (hf:Region.free .any ops aev i=true:=by kernel_rfl) (hr:(cz .any ops aev).contains i=true:=by kernel_rfl)
 (hQ:∀c a w,aes (.panic c) (a.put o.dst undef) w->aes (.panic c) a w:=by exact λ_ _ _ h=>h) (hw:bz o (yielded ops a.tmps)=false:=by kernel_rfl) (hn:∀R:dK->Prop,R a'->R (a.put o.dst undef):=by intro R W;go_simp;exact W):wpAnyH P .any ops aes S (n+1) aev a w:=
 wpAnyH_take hi hs hf hr hQ (.inr ⟨hw,rfl⟩) I5 (hn (λb=>wpAnyH P .any ops aes S n (aev.setIfInBounds i true) b w) h)
def fe(i:Nat)(hi:ops[i]?=some o)(h:wpList P ops (Exit.then (λa' O=>S O∧wpAnyH P .any ops aes S n (aev.setIfInBounds i true) a' O) aes) [o] a w)
 (hr:cz .any ops aev=[i]:=by kernel_rfl):wpAnyH P .any ops aes S (n+1) aev a w:=by
 refine wpAnyH_all hr (by simp) (λi' va=>?_);rw[List.mem_singleton.1 va];unfold wpList at h;unfold wpOp;rw[hi];simp only;split
 ·rename_i hw
  rw[aA hw] at h;refine h.imp (λT=>?_) (λT=>⟨T.1,?_⟩)
  ·unfold Oper.wp at T ⊢
   generalize (execOp a.eval o).run P w=r at *;cases r with
   | ok n O=>
     cases n<;>simp only[Oper.upon] at T ⊢<;>first
      | exact T
      | exact Calls.mono T (λe w'' he=>by
       cases e with
       | returned u=>exact he
       | panicked c=>exact he
       | outgrown=>obtain⟨a1,w1,h5⟩:=he;exact⟨a1,w1,h5⟩)
   | halt x O=>cases x<;>simp only[Oper.upon] at T ⊢<;>exact T
  ·obtain⟨a1,w1,h5⟩:=T.2;exact⟨a1,w1,h5⟩
 ·rename_i hw
  rw[aB hw] at h;exact h
def gb(h:aes .normal a w)(hr:cz .any ops aev=[]:=by kernel_rfl):wpAnyH P .any ops aes S n aev a w:=wpAnyH_done hr h n
end
section
variable{size:Nat}
theorem vv(aep:Elem P t e size bytes z)(w:G)(ty:Nat)(hr1:Reads w B size A k xs)
 {B2:Nat} {A2:aU} {m c:Nat} {news:List E} (tK:0<m) (hr:Reads w B2 size A2 m news) (I:∀u∈news,u.oneCell'=true) (fC:(k+m)*bytes<=140737488355328):∃v' O,(cA #[t,t] ty #[Y A k k,Y A2 m c]).run P w=.ok v' O∧Grow w O∧Own O (New w O) e size v' (k+m) (xs++news):=by
 obtain⟨i,hi,hz,hs,hb⟩:=aep.info;have OU:k+m<=dL:=by have:=Nat.le_mul_of_pos_right (k+m) aep.bpos;simp only[dL];omega
 have fin:∀v' O,O.ownsRow (w:Nat) e size v' (k+m) (xs++news)->w.grownBy O none->Grow w O∧Own O (New w O) e size v' (k+m) (xs++news):=λv' O r1 r2=>
  ⟨⟨r2.os,r2.tape,r2.output,r2.size,λk K=>r2.block k K (by simp)⟩,Own.yx r1 λg H=>by
   rcases r1.2 with ⟨rfl,_⟩|⟨g',cap,cur,rfl,h5,h6,_⟩
   ·cases H
   ·cases H
    exact⟨h5,(Array.getElem?_eq_some_iff.1 h6).1⟩⟩
 obtain⟨ad,rfl,_,hc⟩:=hr.2 tK;cases A with
 | none=>
   have jB:k=0:=by
    rcases cn k with h0|h0
    ·exact h0
    ·obtain⟨_,e,_⟩:=hr1.2 h0;cases e
   subst jB;obtain rfl:xs=[]:=bv (by simpa using hr1.1);obtain⟨v',O,eM,r1,r2,_⟩:=run_append_own_at (P:=P) w (w:Nat) t ty e i z size bytes aep.und hi hz hs hb aep.zs aep.pos (Y none 0 0) 0 [] (World.ownsRow_nil w _ e size) ad m c news hr.1 hc I OU fC (bh _);exact⟨v',O,eM,fin v' O r1 r2⟩
 | some a0=>
   have holds:∀j u,xs[j]?=some u->w.cell? (a0.add j)=some u:=by
    intro j u hu;have fM:0<k:=by
     rcases cn k with h0|h0
     ·have:xs.length=0:=by rw[hr1.1,h0];simp
      rw[bv this] at hu;simp at hu
     ·exact h0
    obtain⟨ad',e',_,hc'⟩:=hr1.2 fM;injection e' with e';rw[e'];exact hc' j u hu
   obtain⟨v',O,eM,r1,r2⟩:=run_append_arg_grows (P:=P) w t ty e i z size bytes aep.und hi hz hs hb aep.zs aep.pos a0 k k xs hr1.1 holds ad m c news hr.1 hc ap OU fC;exact⟨v',O,eM,fin v' O r1 r2⟩
end
section
variable{κ:Type}{ke:κ->E}
end
section
variable{f:FuncId}{S:ei}{l:List ei}{P:aV}
end
section
def qx(hw:bz o (yielded ops a.tmps)=true)(ty:dH)(x:Operand)(ho:o.op=.load ty x)(g b:Nat)(X:a.eval x=.pointer (some ⟨g,b,none⟩))(cs:List E)(hr:w.rangeAt g b cs){fs:Array Field}(hu:P.underlying ty=some (.struct fs))(hi:(P.info? ty).map (·.size)=some cs.length)
 (h:wpList P ops aes rest (a.put o.dst (aZ cs.toArray)) w):wpList P ops aes (o::rest) a w:=by unfold wpList;rw[aA hw];exact .inl (wp_load_mid ty x ho g b X cs _ hr hu rfl hi h)
end
def eL.range{w:G}{g:Nat}{t:dH}{vs:List E}(h:eL w g t vs.toArray)(b:Nat)(cs:List E)(hc:vs.drop b=cs):w.rangeAt g b cs:=λj u hu=>by subst hc;rw[h.cell];simpa using hu
section
variable{md:Region.Mode}
def vw(P:dI)(md:Region.Mode)(ops:Array dJ)(aes:Exit->dK->G->Prop)(S:G->Prop)(Bs:aQ):Nat->Array Bool->dK->G->Prop
 | 0,listed,a,w=>cz md ops listed=[]∧aes .normal a w
 | fuel+1,listed,a,w=>
   (cz md ops listed=[]->aes .normal a w)∧
   ∀i∈cz md ops listed,wpOp P ops aes i (λa' O=>(Bs.contains i=false->S O)∧vw P md ops aes S Bs fuel (listed.setIfInBounds i true) a' O) a w
theorem yH:∀(fuel:Nat)(listed:Array Bool)(a:dK)(w:G),vw P md ops aes S Bs fuel listed a w->wpAny P md ops aes fuel listed a w
 | 0,_,_,_,h=>h
 | fuel+1,_,_,_,h=>⟨h.1,λi hi=>wpOp_mono (λa' O h'=>yH fuel _ a' O h'.2) (h.2 i hi)⟩
def waitsFor(md:Region.Mode)(ops:Array dJ)(i B:Nat):Bool:=match ops[B]? with
 | none=>true
 | some o=>o.after.any λe=>Region.binds md e&&(e.on == i)
def waitsFor_spec(h:waitsFor md ops i B=true)(ho:ops[B]?=some o):∃e∈o.after,Region.binds md e=true∧e.on=i:=by unfold waitsFor at h;rw[ho] at h;simp only[Array.any_eq_true,bP,beq_iff_eq] at h;obtain⟨k,K,I,Z⟩:=h;exact⟨_,Array.getElem_mem K,I,Z⟩
theorem ug{oi:dJ}(hi:ops[i]?=some oi)(a4n:∀(j:Nat)(o:dJ)cs b,ops[j]?=some o->o.op ≠ .select cs b)
 (hQ:∀c a w,aes (.panic c) (a.put oi.dst v) w->aes (.panic c) a w) (hB:Bs.all (waitsFor md ops i)=true):∀(fuel:Nat)(listed:Array Bool)(a:dK)(w:G),
   (∀j oj,ops[j]?=some oj->j≠i->listed.getD j true=false->(∀e∈oj.after,Region.binds md e=true->e.on≠i)->oi.apart ops oj=true)->
   i∈cz md ops listed->YieldsIf P ops S oi v a->S w->
   vw P md ops aes S Bs fuel (listed.setIfInBounds i true) (a.put oi.dst v) w->vw P md ops aes S Bs (fuel+1) listed a w:=by
 intro fuel
 induction fuel with
 | zero=>
   intro listed a w _ hr hy L aen
   refine⟨λh=>(by rw[h] at hr;cases hr),λj hj=>?_⟩
   by_cases D8:j=i
   ·subst D8;exact hy.wpOp hi L ⟨λ_=>L,aen⟩
   ·have:=ready_mono hj D8
    rw[aen.1] at this
    cases this
 | succ fuel ih=>
   intro listed a w XK hr hy L aen
   refine⟨λh=>(by rw[h] at hr;cases hr),λj hj=>?_⟩
   by_cases D8:j=i
   ·subst D8;exact hy.wpOp hi L ⟨λ_=>L,aen⟩
   ·have I:=aen.2 j (ready_mono hj D8)
    obtain⟨a4o,oj,hoj,l9⟩:=mem_ready.1 hj
    have WC:∀e∈oj.after,Region.binds md e=true->e.on≠i:=λe he hb heq=>by
     have I:=l9 e he hb;have h0:=(mem_ready.1 hr).1;rw[heq] at I;rcases cR i listed.size with h'|h'
     ·simp[h'] at h0 I;rw[h0] at I;cases I
     ·simp[Array.getElem?_eq_none h'] at I
    have hjB:Bs.contains j=false:=by
     cases hc:Bs.contains j with
     | false=>rfl
     | true=>
       obtain⟨e,he,h5,h6⟩:=waitsFor_spec (List.all_eq_true.1 hB j (by simpa using hc)) hoj;exact absurd h6 (WC e he h5)
    have Z:=wpOp_putIf hoj (XK j oj hoj D8 a4o WC) (λcs b=>a4n i oi cs b hi) (λcs b=>a4n j oj cs b hoj) hQ hy I
    have a0z:∀k ok,ops[k]?=some ok->k≠i->(listed.setIfInBounds j true).getD k true=false->
     (∀e∈ok.after,Region.binds md e=true->e.on≠i)->oi.apart ops ok=true:=λk ok K hki hun kS=>by
     refine XK k ok K hki ?_ kS;by_cases EJ:j=k;·subst EJ;exact a4o
     ·rw[getD_set_ne true EJ] at hun;exact hun
    refine wpOp_mono (λa' O T=>⟨T.2.1,ih (listed.setIfInBounds j true) a' O a0z (ready_mono hr (Ne.symm D8)) T.1 (T.2.1 hjB) ?_⟩) Z
    rw[Array.setIfInBounds_comm _ _ D8]
    exact T.2.2
end
def lF(ks:aQ)(P:dI)(ops:Array dJ)(aes:Exit->dK->G->Prop)(S:G->Prop)(Bs:aQ)(n:Nat)(aev:Array Bool)(a:dK)(w:G):Prop:=vw P .any ops aes S Bs n aev a w
section
def fV(S:G->Prop)(Bs:aQ)(n:Nat)(hn:ops.size-k=n)(ks:aQ)(h:lF ks P ops aes S Bs n (iy ops.size k) a w):tV P ops aes k a w:=by unfold tV;rw[hn];exact yH _ _ _ _ h
def xV(ks:aQ)(h:lF ks P ops aes S Bs n aev a w):lF [] P ops aes S Bs n aev a w:=h
def ff(hi:ops[i]?=some o)(I5:S w)(hy:∀w,S w->∀(R:E->dK->Prop),R v a'->xq R a o w ((execOp a.eval o).run P w))(h:lF ks P ops aes S Bs n (aev.setIfInBounds i true) a' w)
 (hs:cY ops=true:=by kernel_rfl) (hf:Region.free .any ops aev i=true:=by kernel_rfl) (hr:(cz .any ops aev).contains i=true:=by kernel_rfl)
 (hQ:∀c a w,aes (.panic c) (a.put o.dst v) w->aes (.panic c) a w:=by exact λ_ _ _ h=>h) (hw:bz o (yielded ops a.tmps)=true:=by kernel_rfl) (hB:Bs.all (waitsFor .any ops i)=true:=by kernel_rfl):lF (i::ks) P ops aes S Bs (n+1) aev a w:=by
 have key:∀w1,S w1->(execOp a.eval o).run P w1=.ok (.value v) w1∧a.put o.dst v=a':=λw1 eC=>by
  have I:=hy w1 eC (λu b=>u=v∧b=a') ⟨rfl,rfl⟩;cases hr:(execOp a.eval o).run P w1 with
  | ok n O=>
    rw[hr] at I;cases n with
    | value u=>
      obtain⟨rfl,rfl,Z⟩:=I;exact⟨rfl,Z⟩
    | _=>exact I.elim
  | halt _ _=>rw[hr] at I;exact I.elim
 exact ug hi (Region.noSelect_spec hs) hQ hB n aev a w (Region.free_spec hi hf) (by simpa using hr) (.inl ⟨hw,λw1 I=>(key w1 I).1⟩) I5 (by rw[(key w I5).2];exact h)
def Ub(hi:ops[i]?=some o)(I5:S w)(h:lF ks P ops aes S Bs n (aev.setIfInBounds i true) a' w)
 (hs:cY ops=true:=by kernel_rfl) (hf:Region.free .any ops aev i=true:=by kernel_rfl) (hr:(cz .any ops aev).contains i=true:=by kernel_rfl)
 (hQ:∀c a w,aes (.panic c) (a.put o.dst undef) w->aes (.panic c) a w:=by exact λ_ _ _ h=>h) (hw:bz o (yielded ops a.tmps)=false:=by kernel_rfl) (hn:∀R:dK->Prop,R a'->R (a.put o.dst undef):=by intro R W;go_simp;exact W) (hB:Bs.all (waitsFor .any ops i)=true:=by kernel_rfl):lF (i::ks) P ops aes S Bs (n+1) aev a w:=
 ug hi (Region.noSelect_spec hs) hQ hB n aev a w (Region.free_spec hi hf) (by simpa using hr) (.inr ⟨hw,rfl⟩) I5 (hn (λb=>vw P .any ops aes S Bs n (aev.setIfInBounds i true) b w) h)
def fG(i:Nat)(ks:aQ)(hi:ops[i]?=some o)(h:wpList P ops (Exit.then (λa' O=>(Bs.contains i=false->S O)∧lF ks P ops aes S Bs n (aev.setIfInBounds i true) a' O) aes) [o] a w)
 (hr:cz .any ops aev=[i]:=by kernel_rfl):lF [] P ops aes S Bs (n+1) aev a w:=by
 refine⟨λh0=>(by rw[hr] at h0;cases h0),λi' va=>?_⟩;rw[hr] at va;rw[List.mem_singleton.1 va];unfold wpList at h;unfold wpOp;rw[hi];simp only;split
 ·rename_i hw
  rw[aA hw] at h;refine h.imp (λT=>?_) (λT=>⟨T.1,?_⟩)
  ·unfold Oper.wp at T ⊢
   generalize (execOp a.eval o).run P w=r at *;cases r with
   | ok n O=>
     cases n<;>simp only[Oper.upon] at T ⊢<;>first
      | exact T
      | exact Calls.mono T (λe w'' he=>by
       cases e with
       | returned u=>exact he
       | panicked c=>exact he
       | outgrown=>obtain⟨a1,w1,h5⟩:=he;exact⟨a1,w1,h5⟩)
   | halt x O=>cases x<;>simp only[Oper.upon] at T ⊢<;>exact T
  ·obtain⟨a1,w1,h5⟩:=T.2;exact⟨a1,w1,h5⟩
 ·rename_i hw
  rw[aB hw] at h;exact h
theorem gQ(h:aes .normal a w)(hr:cz .any ops aev=[]:=by kernel_rfl):lF [] P ops aes S Bs n aev a w:=by
 cases n with
 | zero=>exact⟨hr,h⟩
 | succ n=>exact⟨λ_=>h,λi hi=>by rw[hr] at hi;cases hi⟩
def yI(ops:Array dJ)(Bs:aQ):Array Bool->List Nat->Bool
 | aev,[]=>(cz .any ops aev).isEmpty
 | aev,j::js=>(cz .any ops aev == [j])&&Bs.contains j&&yI ops Bs (aev.setIfInBounds j true) js
theorem uh:∀(js:aQ)(os:List dJ){n:Nat}{aev:Array Bool}{a:dK}{w:G},js.map (λj=>ops[j]?)=os.map some->n=js.length->yI ops Bs aev js=true->wpList P ops aes os a w->lF [] P ops aes S Bs n aev a w
 | [],os,n,aev,a,w,ho,hn,hl,h=>by
   obtain rfl:os=[]:=by cases os with|nil=>rfl|cons=>simp at ho
   exact gQ h (by simpa [yI] using hl)
 | j::js,os,n,aev,a,w,ho,hn,hl,h=>by
   cases os with
   | nil=>simp at ho
   | cons o os=>
     simp only[bX,List.cons.injEq] at ho;simp only[yI,bP,beq_iff_eq] at hl;obtain rfl:n=js.length+1:=by simpa using hn
     refine fG j [] ho.1 ?_ hl.1.1;unfold wpList at h ⊢;split
     ·rename_i hw
      rw[aA hw] at h;refine h.imp (λT=>?_) (λT=>⟨T.1,?_⟩)
      ·unfold Oper.wp at T ⊢
       generalize (execOp a.eval o).run P w=r at *;cases r with
       | ok n O=>
         cases n<;>simp only[Oper.upon] at T ⊢<;>first
          | exact⟨λhb=>absurd hl.1.2 (by rw[hb];simp),uh js os ho.2 rfl hl.2 T⟩
          | exact Calls.mono T (λe w'' he=>by
           cases e with
           | returned u=>exact⟨λhb=>absurd hl.1.2 (by rw[hb];simp),uh js os ho.2 rfl hl.2 he⟩
           | panicked c=>exact he
           | outgrown=>obtain⟨a1,w1,h5⟩:=he;exact⟨a1,w1,h5⟩)
          | exact Rows.mono T λu w'' he=>⟨λhb=>absurd hl.1.2 (by rw[hb];simp),uh js os ho.2 rfl hl.2 he⟩
          | exact T
       | halt x O=>cases x<;>simp only[Oper.upon] at T ⊢<;>exact T
      ·obtain⟨a1,w1,h5⟩:=T.2;exact⟨a1,w1,h5⟩
     ·rename_i hw
      rw[aB hw] at h;exact⟨λhb=>absurd hl.1.2 (by rw[hb];simp),uh js os ho.2 rfl hl.2 h⟩
def gx(k:Nat)(hn:n=ops.size-k)(hl:yI ops Bs aev (List.range' k (ops.size-k))=true)(h:wpList P ops aes (ops.toList.drop k) a w):lF [] P ops aes S Bs n aev a w:=by
 refine uh _ (ops.toList.drop k) (List.ext_getElem? λi=>?_) (by rw[hn,List.length_range']) hl h;rw[List.getElem?_map,List.getElem?_map,List.getElem?_drop];by_cases hi:i<ops.size-k
 ·rw[List.getElem?_range' hi]
  simp only[dp,Nat.one_mul,Array.getElem?_toList];rw[Array.getElem?_eq_getElem ap];rfl
 ·rw[List.getElem?_eq_none (by rw[List.length_range'];omega),List.getElem?_eq_none (by rw[ch];omega)];rfl
end
attribute [irreducible] lF
section
def X6{aer:dK->G->Prop}(hi:ops[i]?=some o)(h:wpList P ops (Exit.then aer aes) [o] a w):wpOp P ops aes i aer a w:=by
 unfold wpList at h;unfold wpOp;rw[hi];simp only;split
 ·rename_i hw
  rw[aA hw] at h;refine h.imp (λT=>?_) (λT=>⟨T.1,?_⟩)
  ·unfold Oper.wp at T ⊢
   generalize (execOp a.eval o).run P w=r at *;cases r with
   | ok n O=>
     cases n<;>simp only[Oper.upon] at T ⊢<;>first
      | exact T
      | exact Calls.mono T (λe w'' he=>by
       cases e with
       | returned u=>exact he
       | panicked c=>exact he
       | outgrown=>obtain⟨a1,w1,h5⟩:=he;exact⟨a1,w1,h5⟩)
   | halt x O=>cases x<;>simp only[Oper.upon] at T ⊢<;>exact T
  ·obtain⟨a1,w1,h5⟩:=T.2;exact⟨a1,w1,h5⟩
 ·rename_i hw
  rw[aB hw] at h;exact h
unseal lF in
def a6H(i j:Nat){o1 o2:dJ}(k1 k2:aQ)(hi:ops[i]?=some o1)(hj:ops[j]?=some o2)
 (I:wpList P ops (Exit.then (λa' O=>(Bs.contains i=false->S O)∧lF k1 P ops aes S Bs n (aev.setIfInBounds i true) a' O) aes) [o1] a w)
 (Z:wpList P ops (Exit.then (λa' O=>(Bs.contains j=false->S O)∧lF k2 P ops aes S Bs n (aev.setIfInBounds j true) a' O) aes) [o2] a w)
 (hr:cz .any ops aev=[i,j]:=by kernel_rfl):lF [] P ops aes S Bs (n+1) aev a w:=by
 unfold lF at I Z ⊢;refine⟨λh0=>(by rw[hr] at h0;cases h0),λi' va=>?_⟩;rw[hr] at va;rcases List.mem_cons.1 va with rfl|va
 ·exact X6 hi I
 ·rw[List.mem_singleton.1 va]
  exact X6 hj Z
end
section
variable{κ:Type}[DecidableEq κ]{ke:κ->E}{q q':List (κ×E)}{l:List Bl}
def St.KX(aer:pe P kt ke)(ht:P.underlying t=some (.map kt et))(hz:(zeroValue et).run P w=.ok z w)(h:St V w0 l w)(i:Nat)(hi:l[i]?=some (.o (eR ke b q)))(k:κ)(c:Bool):(Instr.lookup t (.map (some b)) (ke k) c).run P w=.ok (if c then a_ #[(vm q k).getD z,aY (vm q k).isSome] else (vm q k).getD z) w:=by obtain⟨U,hU,_⟩:=h.own.see i (iV hi);exact eR.look aer ht hz (show eR ke b q w U from hU) k c
def St.X7(h:St V w0 l w)(i:Nat)(hi:l[i]?=some (.o (eR ke b q)))(hG:eR ke b q' O U)(hj:dP (λc=>c=b) w O):St V w0 (l.set i (.o (eR ke b q'))) O:=by
 have I:=St.step (a:=[.o (eR ke b q)]) (a2:=[.o (eR ke b q')]) (b:=l.eraseIdx i) (h.front i hi) ⟨eR.framed _ _,trivial⟩ λU1 hM fM=>by obtain⟨U2,_,H,_,k1,_⟩:=hM;have hb:U1 b:=k1 b H.1;exact⟨⟨λc=>c=b,λ_=>False,⟨rfl,hG.2⟩,trivial,λc hc => .inl (by rw[show c=b from hc];exact hb),λ_ h=>h.elim,λ_ _ h=>h⟩,hj.imp λc hc=>by rw[show c=b from hc];exact hb⟩
 exact I.perm (iZ hi).symm
def St.Yf(aer:pe P kt ke)(ht:P.underlying t=some (.map kt et))(h:St V w0 l w)(i:Nat)(hi:l[i]?=some (.o (eR ke b q)))(k:κ)(v:E):∃O,(Instr.mapUpdate t (.map (some b)) (ke k) v).run P w=.ok () O∧St V w0 (l.set i (.o (eR ke b (lN q k v)))) O:=by obtain⟨U,hU,_⟩:=h.own.see i (iV hi);obtain⟨O,I,Z,T⟩:=eR.put aer ht (show eR ke b q w U from hU) k v;exact⟨O,I,h.X7 i hi Z T⟩
def St.a28(aer:pe P kt ke)(ht:P.underlying t=some (.map kt et))(h:St V w0 l w)(i:Nat)(hi:l[i]?=some (.o (eR ke b q)))(k:κ):∃O,(∀ty,(Builtin.delete_ #[t,kt] ty #[.map (some b),ke k]).run P w=.ok (a_ #[]) O)∧St V w0 (l.set i (.o (eR ke b (mq q k)))) O:=by obtain⟨U,hU,_⟩:=h.own.see i (iV hi);obtain⟨O,I,Z,T⟩:=eR.del aer ht (show eR ke b q w U from hU) k 0;exact⟨O,λty=>I,h.X7 i hi Z T⟩
end
end Go.Hop
section
namespace Go.Hop
open Go.RowKit
open Go.ChangeMaps (setBlock)
section
variable{κ:Type}[DecidableEq κ]{ke:κ->E}{q q' todo:List (κ×E)}{l:List Bl}
def mw(ke:κ->E)(b r:Nat)(q todo:List (κ×E)):ei:=λw V=>
 (V b∧V r∧b≠r)∧(q.map Prod.fst).Nodup∧∃(es:Array MapEntry)(clock since c0:Nat)(seen:Array Nat),w.heap[b]?=some (.map es clock)∧es.toList.map (λe=>(e.key,e.val))=(q.map λp=>(ke p.1,p.2))∧u7 es clock∧
  w.heap[r]?=some (.mapIter (some b) since seen c0)∧(∀x∈es.toList,x.born<since)∧(since<=c0∧since<=clock)∧todo=(q.zip (es.toList.map (·.born))).filterMap λx=>if seen.contains x.2 then none else some x.1
def mw.framed(b r:Nat)(q todo:List (κ×E)):eQ (mw ke b r q todo):=λw O V ⟨⟨I,Z,h0⟩,T,es,c,s,c0,seen,h4,h5,h6,h7,h8⟩ K=>⟨⟨I,Z,h0⟩,T,es,c,s,c0,seen,(K b I).trans h4,h5,h6,(K r Z).trans h7,h8⟩
theorem KY:∀(q:List (κ×E))(bs:aQ),q.length=bs.length->(q.zip bs).filterMap (λx=>if (#[]:Array Nat).contains x.2 then none else some x.1)=q
 | [],[],_=>rfl
 | p::q,b::bs,h=>by
   have:=KY q bs (by simpa using h);simp at this ⊢;exact this
theorem St.range(ht:P.underlying t=some (.map kt et))(h:St V w0 l w)(i:Nat)(hi:l[i]?=some (.o (eR ke b q))):∃O,(Instr.range t (.map (some b))).run P w=.ok ((((w:Nat),0):E)) O∧St V w0 (l.set i (.o (mw ke b (w:Nat) q q))) O:=by
 obtain⟨U,hU,_⟩:=h.own.see i (iV hi);obtain⟨hv,hn,es,c,hb,hp,B1⟩:=(show eR ke b q w U from hU);have fM:b<(w:Nat):=(Array.getElem?_eq_some_iff.1 hb).1;have H:(getObj b).run P w=.ok (.map es c) w:=MapKept.run_getObj_map hb;refine⟨w.alloc (.mapIter (some b) c #[] c),by simp[Instr.range,run_underlying ht,H,Result.andThen],?_⟩;have i7:Grow w (w.alloc (.mapIter (some b) c #[] c)):=(Below.refl _ w).alloc (bh _) _;have I:=St.step (a:=[.o (eR ke b q)]) (a2:=[.o (mw ke b (w:Nat) q q)]) (b:=l.eraseIdx i) (h.front i hi) ⟨mw.framed _ _ _ _,trivial⟩ λU1 hM WM=>by obtain⟨U2,_,eO,_,k1,_⟩:=hM;refine⟨⟨ju U1 w (w.alloc (.mapIter (some b) c #[] c)),λ_=>False,?_,trivial,λ_ h=>h,λ_ h=>h.elim,λ_ _ h=>h⟩,dP.dR i7⟩;refine⟨⟨.inl (k1 b eO.1),.inr ⟨bh _,by simp⟩,by omega⟩,hn,es,c,c,c,#[],(i7.block b fM).trans hb,hp,B1,heap_alloc_new w _,B1.2,⟨bh _,bh _⟩,?_⟩;have:=congrArg List.length hp;simp only[bj] at this;exact (KY q _ (by rw[bj];exact this.symm)).symm
 exact I.perm (iZ hi).symm
def sM(w:G)(r:Nat)(o:Obj):dP (λc=>c=r) w (setBlock w r o):=qU w r o
theorem yJ{α β:Type}{f g:α->Option β}:∀{l:List α},(∀x∈l,f x=g x)->l.filterMap f=l.filterMap g
 | [],_=>rfl
 | x::l,h=>by
   rw[List.filterMap_cons,List.filterMap_cons,h x (by simp),yJ λy hy=>h y (by simp[hy])]
theorem sN{α:Type}:∀{l:List α}{i:Nat}{x:α},l[i]?=some x->l.set i x=l
 | [],_,_,h=>by simp at h
 | y::l,0,x,h=>by simp at h;rw[h];rfl
 | y::l,i+1,x,h=>congrArg (y::·) (sN (by simpa using h))
theorem t6{α β:Type}[DecidableEq β](f:α->β):∀{l:List α}{j:Nat}{x:α},(l.map f).Nodup->l[j]?=some x->(l.filter λy=>decide (f y≠f x))=l.eraseIdx j
 | [],_,_,_,h=>by simp at h
 | y::l,0,x,hn,h=>by
   simp at h;subst h;rw[List.filter_cons_of_neg (by simp),List.eraseIdx_zero,List.tail_cons,de];intro z hz;simp only[bX,List.nodup_cons] at hn;simpa using λe=>hn.1 (List.mem_map.2 ⟨z,hz,e⟩)
 | y::l,j+1,x,hn,h=>by
   simp only[bX,List.nodup_cons] at hn;have h':l[j]?=some x:=by simpa using h
   have kr:f y≠f x:=λe=>hn.1 (by rw[e];exact List.mem_map.2 ⟨x,List.mem_of_getElem? h',rfl⟩);rw[List.filter_cons_of_pos (by simpa using kr),t6 f hn.2 h'];rfl
theorem C5{α β:Type}:∀(l:List α)(m:List β)(j:Nat),(l.zip m).eraseIdx j=(l.eraseIdx j).zip (m.eraseIdx j)
 | [],m,j=>by simp
 | x::l,[],j=>by cases j<;>simp
 | x::l,y::m,0=>rfl
 | x::l,y::m,j+1=>by
   show (x,y)::(l.zip m).eraseIdx j=_;rw[C5 l m j];rfl
def Pq{q:List (κ×E)}(hq:(q.map Prod.fst).Nodup)(hb:bs.Nodup){x y:(κ×E)×Nat}(X:x∈q.zip bs)(hy:y∈q.zip bs):x.1.1=y.1.1↔x.2=y.2:=by
 obtain⟨i,hi⟩:=List.getElem?_of_mem X;obtain⟨j,hj⟩:=List.getElem?_of_mem hy;rw[List.getElem?_zip_eq_some] at hi hj;constructor
 ·intro e
  have I:(q.map Prod.fst)[i]?=some x.1.1:=by rw[List.getElem?_map,hi.1];rfl
  have Z:(q.map Prod.fst)[j]?=some x.1.1:=by rw[List.getElem?_map,hj.1,e];rfl
  obtain rfl:=ny hq I Z;have:=hi.2.symm.trans hj.2;injection this
 ·intro e
  obtain rfl:=ny hb hi.2 (by rw[hj.2,e]);have:=hi.1.symm.trans hj.1;injection this with this;rw[this]
def Ps{q:List (κ×E)}{seen:Array Nat}{p:κ×E}{z:Nat}(hq:(q.map Prod.fst).Nodup)(hb:bs.Nodup)(hz:(p,z)∈q.zip bs):mq ((q.zip bs).filterMap λx=>if seen.contains x.2 then none else some x.1) p.1=(q.zip bs).filterMap λx=>if (seen.push z).contains x.2 then none else some x.1:=by
 unfold mq;rw[List.filter_filterMap];refine yJ λx X=>?_;have I:=Pq hq hb X hz;rw[contains_push];cases hs:seen.contains x.2
 ·by_cases hxz:x.2=z
  ·have Z:=I.2 hxz
   simp[hxz,Z]
  ·have Z:¬ x.1.1=p.1:=λe=>hxz (I.1 e)
   simp[hxz,Z]
 ·simp
def St.a29(h:St V w0 l w)(i:Nat)(hi:l[i]?=some (.o (mw ke b r q todo)))(ty:dH):(todo=[]∧(Instr.next ((r:E)) false ty).run P w=.ok (a_ #[aY false]) w)∨
 ∃k v O,(k,v)∈todo∧(k,v)∈q∧(Instr.next ((r:E)) false ty).run P w=.ok (a_ #[aY true,ke k,v]) O∧(Instr.entry ((r:E))).run P O=.ok (a_ #[ke k,v]) O∧St V w0 (l.set i (.o (mw ke b r q (mq todo k)))) O:=by
 obtain⟨U,hU,_⟩:=h.own.see i (iV hi);obtain⟨⟨hv,hvr,kr⟩,hn,es,c,s,c0,seen,hb,hp,B1,hr,hold,⟨hsc,Uc⟩,EY⟩:=(show mw ke b r q todo w U from hU);have fp:q.length=es.toList.length:=by have:=congrArg List.length hp;simpa using this.symm
 have XL:r<(w:Nat):=(Array.getElem?_eq_some_iff.1 hr).1;rcases run_next_at (P:=P) w ty r b s c0 seen es c hr hb hold hsc with ⟨h0,eM⟩|⟨e,he,w1,hal,eM⟩
 ·refine .inl ⟨?_,eM⟩
  rw[EY,List.filterMap_eq_nil_iff];intro x X;have hxb:x.2∈es.toList.map (·.born):=(List.of_mem_zip X).2;obtain⟨e,he,I⟩:=List.mem_map.1 hxb;have Z:=all_seen es seen h0 e he;rw[<-I,aA (by simpa using Z)]
 ·right
  obtain⟨Mj,he2⟩:=mem_left he;obtain⟨j,hj,C3⟩:=List.getElem_of_mem Mj;have WJ:j<q.length:=by omega
  have X8:es.toList[j].key=ke q[j].1∧es.toList[j].val=q[j].2:=by have T:=congrArg (λl=>l[j]?) hp;simp only[List.getElem?_map,List.getElem?_eq_getElem hj,List.getElem?_eq_getElem WJ,dp] at T;injection T with T;injection T with T h4;exact⟨T,h4⟩
  rw[C3] at X8;have yk:w1.heap=w.heap:=by rcases hal with rfl|rfl<;>rfl
  have hzj:(q[j],e.born)∈q.zip (es.toList.map (·.born)):=by refine List.mem_of_getElem? (i:=j) ?_;rw[List.getElem?_zip_eq_some];exact⟨List.getElem?_eq_getElem WJ,by rw[List.getElem?_map,List.getElem?_eq_getElem hj,C3];rfl⟩
  have lC:q[j]∈todo:=by rw[EY];exact List.mem_filterMap.2 ⟨_,hzj,by rw[aB (by simpa using he2)]⟩
  have L:St V w0 l w1:=by
   rcases hal with I|I
   ·rw[I];exact h
   ·rw[I];exact h.grow (Grow.refl _).drew
  have qH:(setBlock w1 r (.mapIter (some b) s (seen.push e.born) c)).heap[r]?=some (.mapIter (some b) s (seen.push e.born) c):=heap_set w1 r _ (by rw[yk];exact XL);have hsb:(setBlock w1 r (.mapIter (some b) s (seen.push e.born) c)).heap[b]?=some (.map es c):=by show (w1.heap.setIfInBounds r _)[b]?=_;rw[Array.getElem?_setIfInBounds,aB (λe=>kr e.symm),yk];exact hb
  refine⟨q[j].1,q[j].2,setBlock w1 r (.mapIter (some b) s (seen.push e.born) c),lC,bD WJ,by rw[eM,X8.1,X8.2],?_,?_⟩
  ·have:=run_entry_at (P:=P) _ r b s seen es c e qH hsb Mj B1.1
   rw[X8.1,X8.2] at this;exact this
  ·have I:=St.step (a:=[.o (mw ke b r q todo)]) (a2:=[.o (mw ke b r q (mq todo q[j].1))]) (b:=l.eraseIdx i) (w:=w1) (O:=setBlock w1 r (.mapIter (some b) s (seen.push e.born) c)) (L.front i hi) ⟨mw.framed _ _ _ _,trivial⟩ λU1 hM WM=>by
    obtain⟨U2,_,eO,_,k1,_⟩:=hM;have hjr:dP U1 w1 (setBlock w1 r (.mapIter (some b) s (seen.push e.born) c)):=(sM w1 r _).imp λx X=>by rw[show x=r from X];exact k1 r eO.1.2.1
    refine⟨⟨U1,λ_=>False,?_,trivial,λ_ h => .inl h,λ_ h=>h.elim,λ_ _ h=>h⟩,hjr⟩;refine⟨⟨k1 b eO.1.1,k1 r eO.1.2.1,kr⟩,hn,es,c,s,c,seen.push e.born,hsb,hp,B1,qH,hold,⟨Uc,Uc⟩,?_⟩;rw[EY];exact Ps hn B1.1 hzj
   exact I.perm (iZ hi).symm
def St.a6I(aer:pe P kt ke)(ht:P.underlying t=some (.map kt et))(h:St V w0 l w)(i:Nat)(hi:l[i]?=some (.o (mw ke b r q todo)))(k:κ):∃O,(∀ty,(Builtin.delete_ #[t,kt] ty #[.map (some b),ke k]).run P w=.ok (a_ #[]) O)∧St V w0 (l.set i (.o (mw ke b r (mq q k) (mq todo k)))) O:=by
 obtain⟨U,hU,_⟩:=h.own.see i (iV hi);obtain⟨⟨hv,hvr,kr⟩,hn,es,c,s,c0,seen,hb,hp,B1,hr,hold,⟨hsc,Uc⟩,EY⟩:=(show mw ke b r q todo w U from hU);have fp:q.length=es.toList.length:=by have:=congrArg List.length hp;simpa using this.symm
 have fM:b<(w:Nat):=(Array.getElem?_eq_some_iff.1 hb).1;obtain⟨x,X,o0⟩:=aer.find w k es.toList 0 (q.map Prod.fst) (pO hp);have H:(getObj b).run P w=.ok (.map es c) w:=MapKept.run_getObj_map hb;rcases o0 with ⟨I,rfl⟩|⟨j,e,I,Z,rfl⟩
 ·have hq:mq q k=q:=by
   unfold mq;rw[de];intro p hp;simp only[ne_eq,decide_not,Bool.not_eq_eq_eq_not,Bool.not_true,decide_eq_false_iff_not];exact λe=>I (by rw[<-e];exact List.mem_map.2 ⟨p,hp,rfl⟩)
  have E_:mq todo k=todo:=by
   unfold mq;rw[de];intro p hp;simp only[ne_eq,decide_not,Bool.not_eq_eq_eq_not,Bool.not_true,decide_eq_false_iff_not];rw[EY] at hp;obtain⟨y,hy,xi⟩:=List.mem_filterMap.1 hp;have hyq:=(List.of_mem_zip hy).1;have:y.1=p:=by
    split at xi;·cases xi
    ·injection xi
   exact λe=>I (by rw[<-e,<-this];exact List.mem_map.2 ⟨_,hyq,rfl⟩)
  rw[hq,E_]
  have hw:setBlock w b (.map es c)=w:=by
   have:w.heap.setIfInBounds b (.map es c)=w.heap:=by
    apply Array.ext_getElem?;intro i;rw[Array.getElem?_setIfInBounds];split;·rename_i e;subst e;first|exact hb.symm|(rw[aA fM];exact hb.symm)
    ·rfl
   show ({ w with heap:=_ }:G)=w;rw[this]
  refine⟨w,λty=>?_,h.perm (by rw[sN hi])⟩
  have h6:(setObj b (.map es c)).run P w=.ok () (setBlock w b (.map es c)):=MapKept.run_setObj_map _ hb
  rw[hw] at h6
  simp[Builtin.delete_,run_underlying ht,H,aer.check w _ k,X,Result.andThen,h6]
 ·have C3:j<es.size:=by simpa using (List.getElem?_eq_some_iff.1 I).1
  have hq:q[j]?=some (k,e.val):=u9 hp I Z;have X9:mq q k=q.eraseIdx j:=t6 Prod.fst hn hq;have hbj:(es.toList.map (·.born))[j]?=some e.born:=by rw[List.getElem?_map,I];rfl
  have hzj:(q.zip (es.toList.map (·.born)))[j]?=some ((k,e.val),e.born):=by rw[List.getElem?_zip_eq_some];exact⟨hq,hbj⟩
  have hzn:((q.zip (es.toList.map (·.born))).map λx=>x.1.1).Nodup:=by
   have e1:(q.zip (es.toList.map (·.born))).map (λx=>x.1.1)=q.map Prod.fst:=by rw[show (λx:(κ×E)×Nat=>x.1.1)=Prod.fst ∘ Prod.fst from rfl,<-List.map_map,List.map_fst_zip (by rw[bj];omega)]
   rw[e1];exact hn
  have OV:mq todo k=((mq q k).zip ((es.eraseIdx j C3).toList.map (·.born))).filterMap λx=>if seen.contains x.2 then none else some x.1:=by rw[X9,Array.toList_eraseIdx,nz,<-C5,<-t6 (λx:(κ×E)×Nat=>x.1.1) hzn hzj,EY];unfold mq;rw[List.filter_filterMap,List.filterMap_filter];refine yJ λx _=>?_;cases seen.contains x.2<;>by_cases X:x.1.1=k<;>simp[X]
  have hsb:(setBlock w b (.map (es.eraseIdx j C3) c)).heap[b]?=some (.map (es.eraseIdx j C3) c):=heap_set w b _ fM;have It:(setBlock w b (.map (es.eraseIdx j C3) c)).heap[r]?=some (.mapIter (some b) s seen c0):=by show (w.heap.setIfInBounds b _)[r]?=_;rw[Array.getElem?_setIfInBounds,aB kr];exact hr
  refine⟨setBlock w b (.map (es.eraseIdx j C3) c),λty=>?_,?_⟩
  ·have h6:(setObj b (.map (es.eraseIdx j C3) c)).run P w=.ok () (setBlock w b (.map (es.eraseIdx j C3) c)):=MapKept.run_setObj_map _ hb
   have h7:es.eraseIdxIfInBounds j=es.eraseIdx j C3:=by rw[Array.eraseIdxIfInBounds,dif_pos C3]
   simp[Builtin.delete_,run_underlying ht,H,aer.check w _ k,X,Result.andThen,h6,h7]
  ·have I:=St.step (a:=[.o (mw ke b r q todo)]) (a2:=[.o (mw ke b r (mq q k) (mq todo k))]) (b:=l.eraseIdx i) (w:=w) (O:=setBlock w b (.map (es.eraseIdx j C3) c)) (h.front i hi) ⟨mw.framed _ _ _ _,trivial⟩ λU1 hM WM=>by
    obtain⟨U2,_,eO,_,k1,_⟩:=hM;have hjr:dP U1 w (setBlock w b (.map (es.eraseIdx j C3) c)):=(sM w b _).imp λx X=>by rw[show x=b from X];exact k1 b eO.1.1
    refine⟨⟨U1,λ_=>False,?_,trivial,λ_ h => .inl h,λ_ h=>h.elim,λ_ _ h=>h⟩,hjr⟩;refine⟨⟨k1 b eO.1.1,k1 r eO.1.2.1,kr⟩,?_,es.eraseIdx j C3,c,s,c0,seen,hsb,?_,B1.erase C3,It,λx X=>?_,⟨hsc,Uc⟩,OV⟩;·rw[X9];exact hn.sublist ((List.eraseIdx_sublist q j).map Prod.fst)
    ·rw[X9,Array.toList_eraseIdx,nz,nz,hp]
    ·rw[Array.toList_eraseIdx] at X
     exact hold x (dz X)
   exact I.perm (iZ hi).symm
def Dp(b r:Nat)(w:G):Nat:=match w.heap[b]?,w.heap[r]? with
 | some (.map es _),some (.mapIter _ _ seen _)=>((es.toList.map (·.born)).filter λz => !seen.contains z).length
 | _,_=>0
theorem Fj(seen:Array Nat):∀(q:List (κ×E))(bs:aQ),q.length=bs.length->((q.zip bs).filterMap λx=>if seen.contains x.2 then none else some x.1).length=(bs.filter λz => !seen.contains z).length
 | [],[],_=>rfl
 | p::q,z::bs,h=>by
   have ih:=Fj seen q bs (by simpa using h);rw[List.zip_cons_cons,List.filterMap_cons,List.filter_cons];cases hc:seen.contains z
   ·simp only[Bool.false_eq_true,if_false,Bool.not_false,if_true,bC]
    rw[ih]
   ·simp only[if_true,Bool.not_true,Bool.false_eq_true,if_false]
    exact ih
def St.Pt(h:St V w0 l w)(i:Nat)(hi:l[i]?=some (.o (mw ke b r q todo))):Dp b r w=todo.length:=by
 obtain⟨U,hU,_⟩:=h.own.see i (iV hi);obtain⟨_,hn,es,c,s,c0,seen,hb,hp,B1,hr,hold,_,EY⟩:=(show mw ke b r q todo w U from hU);have fp:q.length=es.toList.length:=by have:=congrArg List.length hp;simpa using this.symm
 unfold Dp;rw[hb,hr,EY];exact (Fj seen q _ (by rw[bj];exact fp)).symm
def St.Pu(h:St V w0 l w)(i:Nat)(hi:l[i]?=some (.o (mw ke b r q todo))):(q.map Prod.fst).Nodup:=by obtain⟨U,hU,_⟩:=h.own.see i (iV hi);exact (show mw ke b r q todo w U from hU).2.1
def C6{α β:Type}{l:List (α×β)}(hn:(l.map Prod.fst).Nodup){x y:α×β}(X:x∈l)(hy:y∈l)(e:x.1=y.1):x=y:=by obtain⟨i,hi⟩:=List.getElem?_of_mem X;obtain⟨j,hj⟩:=List.getElem?_of_mem hy;obtain rfl:=ny hn (i:=i) (j:=j) (a:=x.1) (by rw[List.getElem?_map,hi];rfl) (by rw[List.getElem?_map,hj,e];rfl);rw[hi] at hj;injection hj
def ML{q:List (κ×E)}{k:κ}(h:(k,v)∈q):(mq q k).length<q.length:=by unfold mq;refine Nat.lt_of_le_of_ne (df _ _) λe=>?_;have:=List.length_filter_eq_length_iff.1 e _ h;simp at this
def St.rend(h:St V w0 l w)(i:Nat)(hi:l[i]?=some (.o (mw ke b r q todo))):St V w0 (l.set i (.o (eR ke b q))) w:=by
 have I:=St.cls (a:=[.o (mw ke b r q todo)]) (h.front i hi) (eR.framed b q) λU hM=>by obtain⟨U',I,Z⟩:=oI hM 0 rfl;obtain⟨⟨hv,_⟩,hn,es,c,_,_,_,hb,hp,B1,_⟩:=(show mw ke b r q todo w U' from I);exact⟨Z b hv,hn,es,c,hb,hp,B1⟩
 exact I.perm (iZ hi).symm
end
section
def mx(hw:bz o (yielded ops a.tmps)=true)(it:Operand)(ho:o.op=.next it false)(hit:a.eval it=(r:E))(eM:(Instr.next ((r:E)) false o.type).run P w=.ok v O)(h:wpList P ops aes rest (a.put o.dst v) O):wpList P ops aes (o::rest) a w:=pg hw (by simp[execOp,ho,hit,eM,Result.andThen]) h
end
end Go.Hop
end
namespace Go.Hop
open RowKit Lib
def Dq(s:aR):strCells s=lg s.data.toList:=by unfold strCells lg;rfl
section
variable{u:dH}
def t7(aep:Elem P t e 1 1 (.int .u8 0))(hu:P.underlying u=some .string)(w:G)(ty:Nat)(v:E)(n:Nat)(xs:List E)(iC:Own w V e 1 v n xs)(s:aR)
 (fC:n+s.size<=140737488355328):∃v' O,(cA #[t,u] ty #[v,aX s]).run P w=.ok v' O∧Own O (ju V w O) e 1 v' (n+s.size) (xs++lg s.data.toList)∧dP V w O:=by
 obtain⟨i,hi,hz,hs,hb⟩:=aep.info;have BL:Src P i.size u (aX s) s.size (lg s.data.toList) w:=by rw[hs];exact Src.ofString w hu s
 have TF:xs.length=n:=by have:=iC.1;omega
 have hnl:(lg s.data.toList).length=s.size:=by have:=BL.newsLen;rw[hs] at this;omega
 have grow:∀(ao:aU)(cap:Nat),v=Y ao n cap->cap<n+s.size->(Builtin.firstCells i.size n (Y ao n cap)).run P w.drew=.ok xs.toArray w.drew->
  ∃v' O,(cA #[t,u] ty #[v,aX s]).run P w=.ok v' O∧Own O (ju V w O) e 1 v' (n+s.size) (xs++lg s.data.toList)∧dP V w O:=by
  rintro ao cap rfl H hold;have OU:n+s.size<=dL:=by simp only[dL];omega
  have eM:=run_append_grow_src (P:=P) w t u ty e i (.int .u8 0) aep.und hi hz ao n cap xs hold (aX s) s.size (lg s.data.toList) BL H ap (growslice_fits H (by rw[hb];omega));have TH:=grownCap_ge w (n+s.size) cap e;have jg:grownCap w (n+s.size) cap e<=dL:=grownCap_le_maxLen w (n+s.size) cap e OU;refine⟨_,_,eM,⟨by rw[bd];omega,.inr ⟨(w:Nat),_,_,rfl,.inr ⟨bh _,by simp⟩,heap_alloc_new w.drew _,TH,jg,.inl ?_,?_⟩⟩,⟨rfl,rfl,rfl,by simp,λk K _=>heap_alloc_old w.drew _ K⟩⟩
  ·have hz1:(Value.int IntKind.u8 0).cells.size=1:=rfl
   simp only[Array.size_append,cE,size_zeroCells,hz1,bd,TF,hnl];omega
  ·have hl:(xs++lg s.data.toList).length=(n+s.size)*1:=by rw[bd];omega
   rw[Array.toList_append,List.toList_toArray,<-hl];exact List.take_left
 by_cases hm:s.size=0
 ·have hn:lg s.data.toList=[]:=bv ap
  rw[hn,hm] at BL;obtain⟨A,c,rfl,_,jf,_⟩:=iC.reads;refine⟨_,w,run_append_nothing (P:=P) w t u ty e i aep.und hi A n c jf (aX s) BL,?_,dP.dR (Grow.refl w)⟩;rw[hn,hm,bm];exact iC.mono λb hb => .inl hb
 ·rcases iC.2 with ⟨hv,h0⟩|⟨g,cap,cur,hv,hV,H,jf,jg,jo,jA⟩
  ·subst h0
   obtain rfl:xs=[]:=bv TF;exact grow none 0 hv ap (run_firstCells_none (P:=P) w.drew i.size 0 0 0)
  ·by_cases sT:n+s.size<=cap
   ·have ko:cur.size=cap:=by
     rcases jo with h|⟨h,_⟩
     ·omega
     ·omega
    have hr:=run_append_room_string (P:=P) w t u ty e i aep.und hu hi hs g n cap cur H s sT ap
    subst hv
    refine⟨_,_,hr,⟨by rw[bd];omega,.inr ⟨g,cap,_,rfl,.inl hV,setRow_heap w g cur _ e _ H,sT,jg,.inl ?_,?_⟩⟩,⟨rfl,rfl,rfl,by simp,λk _ K=>setRow_other w g k _ (λe=>K (by rw[e];exact hV))⟩⟩
    ·simp only[cE,bd,bn,bU,ch,strCells_length]
     omega
    ·have ht':cur.toList.take n=xs:=by simpa using jA
     have hl:(xs++strCells s).length=(n+s.size)*1:=by rw[bd,TF,strCells_length,cO]
     rw[List.toList_toArray,ht',<-hl,Dq]
     exact List.take_left
   ·refine grow (some (g,0)) cap hv ap ?_
    obtain⟨A',c',hv',sE,_,_⟩:=iC.reads;refine run_firstCells_some (P:=P) w.drew i.size n (g,0) n cap xs (by rw[hs];exact iC.1) λj u' hu'=>?_;have B4:0<n:=by
     rcases cn n with h0|h0
     ·rw[bv (show xs.length=0 by omega)] at hu';simp at hu'
     ·exact h0
    obtain⟨ad',e',_,hc'⟩:=sE.2 B4;rw[hv] at hv';injection hv' with hv';rw[<-hv'] at e';injection e' with e';rw[e'];exact hc' j u' hu'
def yK(aep:Elem P t e 1 1 (.int .u8 0))(hu:P.underlying u=some .string)(w:G)(hw:bz o (yielded ops a.tmps)=true)(s x:Operand)
 (ho:o.op=.call { callee := .builtin .append,args:=#[s,x],argTypes:=#[t,u] })
 (v:E) (n:Nat) (xs:List E) (hs:a.eval s=v) (iC:Own w V e 1 v n xs)
 (str:aR) (X:a.eval x=aX str) (fC:n+str.size<=140737488355328)
 (h:∀v' O,Own O (ju V w O) e 1 v' (n+str.size) (xs++lg str.data.toList)->dP V w O->wpList P ops aes rest (a.put o.dst v') O):wpList P ops aes (o::rest) a w:=by obtain⟨v',O,eM,Z,T⟩:=t7 aep hu w o.type v n xs iC str fC;unfold wpList;rw[aA hw];refine .inl ?_;unfold Oper.wp execOp;simp only[ho,resolve,invoke,builtin,Sem.run_bind,Sem.run_pure,Result.andThen_ok,cZ,bX,cS,hs,X,eM];exact h v' O Z T
end
end Go.Hop
namespace Go.Hop
open ChangeShapes WideShapes ChangeAt RowKit
section
variable{aen:Type}{enc:dH×E->aen}
theorem sO(hl:laidOutB P=true){aeu W':G}(hb:Below (aeu:Nat) aeu W'):∀(ts:List dH)(vs:List E)(ds:List (DataW aen))(ps:List MemPlace),
 (∀t∈ts,P.readableRec t=true∧t<P.types.size)->DataW.TrodAll enc P aeu 0 (λ_=>true) true ts vs ds ps->(∀x∈ps,x.block<(aeu:Nat))->
 DataW.TrodAll enc P W' 0 (λb=>decide (b<(aeu:Nat))) true ts vs ds ps
 | [],vs,ds,ps,_,h,_=>by
   obtain⟨rfl,rfl,rfl⟩:=trodAll_nil h;exact trodAll_mk0
 | t::ts,vs,ds,ps,hr,h,fM=>by
   obtain⟨v0,vs0,d0,ds0,p0,q0,rfl,rfl,rfl,h0,r0⟩:=trodAll_cons h;obtain⟨I,Z⟩:=hr t (by simp);exact⟨p0,q0,Below.trod hl I Z h0 hb (λx X=>fM x (by simp[X])),sO hl hb ts vs0 ds0 q0 (λu hu=>hr u (by simp[hu])) r0 (λx X=>fM x (by simp[X])),rfl⟩
def Pv{f:Func}{s:ChangeSpec}{tb:dH}(hl:laidOutB P=true)(htb:P.underlying tb=some .bool)(KH:f.resultTypes=#[tb])(XM:s.vars=[])
 (XN:(f.params.toList.all λt=>P.readableRec t&&decide (t<P.types.size))=true) {aeu W':G} {args:aP} {ds gs:List (DataW aen)} {before:List MemPlace}
 (hW:DataW.Whole enc P f.params.toList s.vars false aeu args.toList ds gs before) (T6:s.fn aen ds={ results:=[.lit (.bool true)],args:=ds }) (hb:Below (aeu:Nat) aeu W'):s.post enc P f false true false false aeu args (aY true) W':=by
 have hW':=hW;have hr:∀t∈f.params.toList,P.readableRec t=true∧t<P.types.size:=by intro t ht;simpa using List.all_eq_true.1 XN t ht
 have fM:∀p∈before,p.block<(aeu:Nat):=λp hp=>hW'.lt p hp;obtain⟨p,q,hA,hV,rfl,hfz,qI⟩:=hW;rw[XM] at hV;obtain⟨rfl,rfl⟩:=trodVars_none hV;refine⟨ds,[],p++[],[],p,[],hW',?_,?_,?_,World.keptBut_mono (λx X=>⟨X,?_⟩) (hb.frame (·∈p++[])),λh=>by cases h⟩
 ·rw[bm,T6,KH]
  exact trodAll_mk1 (shut_bool htb true)
 ·rw[bm,T6]
  exact sO hl hb _ _ _ _ hr hA (λx X=>fM x (by simp[X]))
 ·rw[bm,T6,XM]
  rfl
 ·exact Or.inr (Or.inl (by simpa using X))
def Pw{z:Int}(h:(Lit.int .u8 z).wf=true):((UInt8.ofNat z.toNat).toNat:Int)=z:=by
 have X:0<=z∧z<=255:=by simpa [Lit.wf,IntKind.min,IntKind.max,IntKind.signed,IntKind.bits] using h
 rw[UInt8.toNat_ofNat'];omega
def open_bytes(ht:P.underlying t=some (.slice e))(he:P.underlying e=some (.int .u8))(hc:P.cellsOf e=1){d:DataW aen}{p:List MemPlace}{r:Reach}
 (hv:Value.okWide P w r b0 t v) (h:DataW.Trod enc P w 0 (λ_=>true) true t v d p):∃(A:aU)(n cap:Nat)(l:aT),v=Y A n cap∧Bytes w (w:Nat) A n l∧n<=cap∧cap<=dL∧
   ((d=.nil∧n=0)∨∃zs:aN,d=.slice (lits .u8 (zs.take n)) (lits .u8 (zs.drop n))∧zs.length=cap):=by
 obtain⟨A,n,cap,rfl⟩:=okWide_slice ht hv
 obtain⟨fuel,hf⟩:=h
 rcases open_ints ht he hc hf with ⟨ko,X⟩|⟨a,len',cap',zs,ko,_,hl,hm,hz,X,iT,WN⟩
 ·simp only[Value.cells,List.cons.injEq,Value.slice.injEq,and_true] at ko
  simp only[Prod.mk.injEq] at X
  obtain⟨rfl,rfl,rfl⟩:=ko
  exact⟨none,0,0,[],rfl,Reads.nil,bh _,bo _,.inl ⟨X.1,rfl⟩⟩
 ·simp only[Value.cells,List.cons.injEq,Value.slice.injEq,and_true] at ko
  simp only[Prod.mk.injEq] at X
  obtain⟨rfl,rfl,rfl⟩:=ko
  simp only[if_true] at hz
  refine⟨_,_,_,(zs.take n).map (λz=>UInt8.ofNat z.toNat),rfl,⟨by simp;omega,λhn=>⟨a,rfl,?_,λj u hu=>?_⟩⟩,hl,hm,.inr ⟨zs,X.1,hz⟩⟩
  ·have:=World.block_lt_of_cell? w (a.add 0) (iT 0 ap)
   rwa [block_add] at this
  ·obtain⟨hj,rfl⟩:=Dj hu
   simp only[bj,bn] at hj
   rw[iT j ap]
   simp only[dt,List.getElem_take]
   rw[Pw (WN _ (bD _))]
   simp[List.getD,show j<zs.length by omega]
def MM{k:IntKind}(ht:P.underlying t=some (.slice e))(he:P.underlying e=some (.int k))(hc:P.cellsOf e=1){d:DataW aen}{p:List MemPlace}{r:Reach}
 (hv:Value.okWide P w r b0 t v) (h:DataW.Trod enc P w 0 (λ_=>true) true t v d p):∃(A:aU)(n cap:Nat)(l:aN),v=.slice A n cap∧Reads w (w:Nat) 1 A n (l.map (Value.int k))∧(∀z∈l,(Lit.int k z).wf=true)∧n<=cap∧cap<=dL∧
   ((d=.nil∧n=0)∨∃zs:aN,d=.slice (lits k (zs.take n)) (lits k (zs.drop n))∧zs.length=cap):=by
 obtain⟨A,n,cap,rfl⟩:=okWide_slice ht hv
 obtain⟨fuel,hf⟩:=h
 rcases open_ints ht he hc hf with ⟨ko,X⟩|⟨a,len',cap',zs,ko,_,hl,hm,hz,X,iT,WN⟩
 ·simp only[Value.cells,List.cons.injEq,Value.slice.injEq,and_true] at ko
  simp only[Prod.mk.injEq] at X
  obtain⟨rfl,rfl,rfl⟩:=ko
  exact⟨none,0,0,[],rfl,Reads.nil,by simp,bh _,bo _,.inl ⟨X.1,rfl⟩⟩
 ·simp only[Value.cells,List.cons.injEq,Value.slice.injEq,and_true] at ko
  simp only[Prod.mk.injEq] at X
  obtain⟨rfl,rfl,rfl⟩:=ko
  simp only[if_true] at hz
  refine⟨_,_,_,zs.take n,rfl,⟨by simp;omega,λhn=>⟨a,rfl,?_,λj u hu=>?_⟩⟩,λz hz=>WN z (bY hz),hl,hm,.inr ⟨zs,X.1,hz⟩⟩
  ·have:=World.block_lt_of_cell? w (a.add 0) (iT 0 ap)
   rwa [block_add] at this
  ·rw[List.getElem?_map,List.getElem?_take] at hu
   split at hu
   ·rename_i hj
    rw[List.getElem?_eq_getElem ap] at hu
    rw[iT j ap]
    simp only[dp,Option.some.injEq] at hu
    rw[<-hu]
    simp[List.getD,show j<zs.length by omega]
   ·cases hu
end
end Go.Hop
namespace Go.Proofs.YtpeepcmdehhbgaaGreatDoor.aeu
def far(F n:Int):Bool:=decide (F<n)&&decide (64<=n-F-1)
def seen(F:Int)(M:Nat)(n:Int):Bool:=decide (n<=F)||(!far F n&&M.testBit (n-F-1).toNat)
def strip:Nat->Int->Nat->Int×Nat
 | 0,F,M=>(F,M)
 | k+1,F,M=>if M % 2=1 then strip k (F+1) (M / 2) else (F,M)
def put(F:Int)(M:Nat)(n:Int):Int×Nat:=strip 64 F (M ||| 2 ^ (n-F-1).toNat)
structure kC(F:Int)(M:Nat):Prop where
 lo:0<=F
 hi:F<=9223372036854775807
 mask:M<18446744073709551616
 top:∀i,M.testBit i=true->F+1+(i:Int)<=9223372036854775807
def kC.none:kC 0 0:=⟨by omega,by omega,by omega,λi h=>by simp at h⟩
def kC.step(h:kC F M)(ho:M % 2=1):kC (F+1) (M / 2):=by have h0:=h.top 0 (by rw[Nat.testBit_zero];simpa using ho);have:=h.lo;have:=h.mask;refine⟨by omega,by omega,by omega,λi hi=>?_⟩;have:=h.top (i+1) (by rw[Nat.testBit_succ];exact hi);omega
theorem kC.strip:∀(k:Nat){F:Int}{M:Nat},kC F M->kC (strip k F M).1 (strip k F M).2
 | 0,_,_,h=>h
 | k+1,F,M,h=>by
   unfold Go.Proofs.YtpeepcmdehhbgaaGreatDoor.aeu.strip;split;·rename_i ho;exact kC.strip k (h.step ho)
   ·exact h
theorem kC.put{F:Int}{M:Nat}(h:kC F M){n:Int}(hn:n<=9223372036854775807)(I:F<n)(Z:n-F-1<64):kC (put F M n).1 (put F M n).2:=by
 refine kC.strip 64 ⟨h.lo,h.hi,?_,λi hi=>?_⟩;·exact Nat.or_lt_two_pow (n:=64) h.mask (Nat.pow_lt_pow_right ap ap)
 ·rw[Nat.testBit_or,Bool.or_eq_true] at hi
  rcases hi with hi|hi
  ·exact h.top i hi
  ·rw[Nat.testBit_two_pow] at hi
   have:(n-F-1).toNat=i:=by simpa using hi
   omega
def MN(F:Int)(M:Nat)(n:Int):Bool := !(far F n||seen F M n)
def iJ(F:Int)(M:Nat)(n:Int):Int×Nat:=if MN F M n then Go.Proofs.YtpeepcmdehhbgaaGreatDoor.aeu.put F M n else (F,M)
def yL{n:Int}(h:MN F M n=true):F<n∧n-F-1<64∧M.testBit (n-F-1).toNat=false:=by
 unfold MN seen far at h;simp only[Bool.not_eq_true',Bool.or_eq_false_iff,Bool.and_eq_false_iff,decide_eq_false_iff_not,Bool.not_eq_false'] at h;obtain⟨I,Z,T⟩:=h;have fM:F<n:=by omega
 refine⟨fM,by omega,?_⟩;rcases T with T|T
 ·simp only[bP,decide_eq_true_eq] at T;omega
 ·exact T
def kC.add(h:kC F M){n:Int}(hn:n<=9223372036854775807):kC (iJ F M n).1 (iJ F M n).2:=by
 unfold iJ;split
 ·rename_i hb
  obtain⟨I,Z,_⟩:=yL hb;exact h.put hn I Z
 ·exact h
end Go.Proofs.YtpeepcmdehhbgaaGreatDoor.aeu
namespace Go.Proofs.YtpeepcmdehhbgaaGreatDoor.V
open RowKit Hop
def enc(n:Nat):List UInt8:=if n<128 then [UInt8.ofNat n] else UInt8.ofNat (n % 128+128)::enc (n / 128)
termination_by n
decreasing_by omega
def val:List UInt8->Nat
 | []=>0
 | c::l=>c.toNat % 128+128*val l
def Canon:List UInt8->Prop
 | []=>False
 | [c]=>c.toNat<128
 | c::d::l=>128<=c.toNat∧(d::l)≠[0]∧Canon (d::l)
def oK(h:n<256):(UInt8.ofNat n).toNat=n:=by rw[UInt8.toNat_ofNat'];omega
def jx(h:n<128):enc n=[UInt8.ofNat n]:=by rw[enc];rw[aA h]
def my(h:128<=n):enc n=UInt8.ofNat (n % 128+128)::enc (n / 128):=by rw[enc];rw[aB ap]
def Yg(n:Nat):enc n≠[]:=by
 by_cases h:n<128;·rw[jx h];simp
 ·rw[my ap];simp
theorem xW(n:Nat):val (enc n)=n:=by
 induction n using Nat.strongRecOn with
 | _ n ih=>
   by_cases h:n<128
   ·rw[jx h]
    simp only[val];rw[oK ap];omega
   ·rw[my ap]
    simp only[val];rw[ih (n / 128) ap,oK ap];omega
def Px(h:enc n=[0]):n=0:=by have:=xW n;rw[h] at this;rw[<-this];rfl
theorem lQ(n:Nat):Canon (enc n):=by
 induction n using Nat.strongRecOn with
 | _ n ih=>
   by_cases h:n<128
   ·rw[jx h]
    show (UInt8.ofNat n).toNat<128;rw[oK ap];exact h
   ·rw[my ap]
    have I:=ih (n / 128) ap;have Z:enc (n / 128)≠[0]:=λe=>by have:=Px e;omega
    revert I Z;cases enc (n / 128) with
    | nil=>intro I;exact absurd I (by simp[Canon])
    | cons d l=>
      intro I Z;exact⟨by rw[oK ap];omega,Z,I⟩
theorem C7:∀(p:aT),Canon p->enc (val p)=p
 | [],h=>h.elim
 | [c],h=>by
   have h:c.toNat<128:=h;simp only[val];rw[show c.toNat % 128+128*0=c.toNat by omega,jx h];simp
 | c::d::l,h=>by
   obtain⟨I,Z,T⟩:=h;have ih:=C7 (d::l) T;have hc:c.toNat<256:=c.toNat_lt;have hv:1<=val (d::l):=by
    rcases cn (val (d::l)) with h0|h0
    ·rw[h0,jx ap] at ih
     exact absurd ih.symm Z
    ·exact h0
   show enc (c.toNat % 128+128*val (d::l))=_;generalize val (d::l)=v at ih hv;rw[my ap,show (c.toNat % 128+128*v) / 128=v by omega,ih];congr 1;rw[show (c.toNat % 128+128*v) % 128+128=c.toNat by omega];simp
theorem ui:∀(p q l:aT),Canon p->Canon q->p <+: l->q <+: l->p=q
 | [],_,_,h,_,_,_=>h.elim
 | _,[],_,_,h,_,_=>h.elim
 | c::p,d::q,l,hp,hq,I,Z=>by
   obtain⟨r,rfl⟩:=I;rw[cH] at Z;obtain⟨rfl,T⟩:=List.cons_prefix_cons.1 Z;have I:p <+: p++r:=⟨r,rfl⟩;cases p with
   | nil=>
     cases q with
     | nil=>rfl
     | cons e q=>exact absurd hq.1 (by have:d.toNat<128:=hp;omega)
   | cons e p=>
     cases q with
     | nil=>exact absurd hp.1 (by have:d.toNat<128:=hq;omega)
     | cons f q=>rw[ui (e::p) (f::q) (e::p++r) hp.2.2 hq.2.2 I T]
def kK(I:enc m <+: l)(Z:enc n <+: l):m=n:=by have:=ui _ _ l (lQ m) (lQ n) I Z;rw[<-xW m,this,xW]
theorem yM:∀(k n:Nat),n<128 ^ (k+1)->(enc n).length<=k+1
 | 0,n,h=>by rw[jx (by simpa using h)];simp
 | k+1,n,h=>by
   by_cases hn:n<128;·rw[jx hn];simp
   ·rw[my ap,bC]
    have:=yM k (n / 128) (by rw[Nat.pow_succ] at h;omega);omega
def eG(h:n<18446744073709551616):(enc n).length<=10:=yM 9 n ap
def od(n:Nat):1<=(enc n).length:=by
 rcases cn (enc n).length with h|h
 ·exact absurd (bv h) (Yg n)
 ·exact h
def Hi(l:aT)(i:Nat):Prop:=∀(j:Nat)(hj:j<l.length),j<i->128<=l[j].toNat
theorem uj:∀(p l:aT)(i:Nat),Canon p->p <+: l->Hi l i->i<p.length
 | [],_,_,h,_,_=>h.elim
 | [c],l,i,h,⟨r,hr⟩,hi=>by
   rcases cn i with h0|h0
   ·subst h0;simp
   ·have:=hi 0 (by rw[<-hr];simp) h0
    subst hr;have hc:c.toNat<128:=h;simp at this;omega
 | c::d::p,l,i,h,⟨r,hr⟩,hi=>by
   cases i with
   | zero=>simp
   | succ i=>
     have:=uj (d::p) (d::p++r) i h.2.2 ⟨r,rfl⟩ (λj hj D8=>by have:=hi (j+1) (by rw[<-hr];simpa using hj) ap;subst hr;simpa using this)
     simp at this ⊢;omega
theorem C8:∀(p l:aT)(i:Nat)(hi:i<l.length),Canon p->p <+: l->i<p.length->l[i].toNat<128->p.length=i+1
 | [],_,_,_,h,_,_,_=>h.elim
 | [c],_,i,_,_,_,h,_=>by simp at h;simp;omega
 | c::d::p,l,i,hi,h,⟨r,hr⟩,hip,hl=>by
   subst hr;cases i with
   | zero=>have:=h.1;simp at hl;omega
   | succ i=>
     have:=C8 (d::p) (d::p++r) i (by simpa using hi) h.2.2 ⟨r,rfl⟩ (by simpa using hip) (by simpa using hl);simp at this ⊢;omega
theorem ml:∀(l:aT)(i:Nat)(hi:i<l.length),val (l.take (i+1))=val (l.take i)+(l[i].toNat % 128)*128 ^ i
 | [],_,h=>by simp at h
 | c::l,0,_=>by simp[val]
 | c::l,i+1,h=>by
   have hl:i<l.length:=by simpa using h
   have ih:=ml l i hl;rw[cD,cD];simp only[val,List.getElem_cons_succ];rw[ih,Nat.pow_succ,Nat.mul_add];have:128*(l[i].toNat % 128*128 ^ i)=l[i].toNat % 128*(128 ^ i*128):=by rw[Nat.mul_comm,Nat.mul_assoc]
   omega
theorem Py:∀(l:aT),val l<128 ^ l.length
 | []=>by simp[val]
 | c::l=>by
   have:=Py l;simp only[val,bC,Nat.pow_succ];omega
def qY(l:aT)(i:Nat):val (l.take i)<128 ^ i:=by refine bu (Py _) (Nat.pow_le_pow_right ap ?_);rw[bn];omega
theorem Fl:∀(p l:aT)(i:Nat)(hi:i<l.length),p <+: l->i<p.length->(l[i].toNat % 128)*128 ^ i<=val p
 | [],_,_,_,_,h=>by simp at h
 | c::p,l,0,hi,⟨r,hr⟩,_=>by subst hr;simp[val]
 | c::p,l,i+1,hi,⟨r,hr⟩,h=>by
   subst hr;have hl:i<(p++r).length:=by simpa using hi
   have:=Fl p (p++r) i hl ⟨r,rfl⟩ (by simpa using h);simp only[val,cH,List.getElem_cons_succ,Nat.pow_succ];have e:(p++r)[i].toNat % 128*(128 ^ i*128)=128*((p++r)[i].toNat % 128*128 ^ i):=by rw[Nat.mul_comm 128,Nat.mul_assoc]
   omega
theorem yN:∀(l:aT)(i:Nat)(hi:i<l.length),Hi l i->l[i].toNat<128->(l[i]≠0∨i=0)->Canon (l.take (i+1))
 | [],_,h,_,_,_=>by simp at h
 | c::l,0,_,_,h,_=>by simpa [Canon] using h
 | [c],i+1,h,_,_,_=>by simp at h
 | c::d::l,i+1,hi,hh,h,hz=>by
   have ih:=yN (d::l) i (by simpa using hi) (λj hj D8=>by have:=hh (j+1) (by simpa using hj) ap;simpa using this) (by simpa using h) (by
    rcases hz with hz|hz
    ·exact .inl (by simpa using hz)
    ·omega)
   have h0:=hh 0 (by simp) ap;rw[cD];cases ht:(d::l).take (i+1) with
   | nil=>simp at ht
   | cons e q=>
     rw[ht] at ih;refine⟨by simpa using h0,λhe=>?_,ih⟩;rw[he] at ht;have fp:=congrArg List.length ht;rw[bn,bC,bC,cx] at fp;rw[bC,bC] at hi;have hi0:i=0:=by omega
     subst hi0;rcases hz with hz|hz
     ·apply hz
      simp at ht ⊢;exact ht
     ·omega
def i_(l:aT)(n k:Nat):Prop:=(n<18446744073709551616∧enc n <+: l∧k=(enc n).length)∨((∀m,m<18446744073709551616->¬ enc m <+: l)∧n=0∧k=0)
def i_.one{n' k':Nat}(h:i_ l n k)(h':i_ l n' k'):n=n'∧k=k':=by
 rcases h with ⟨I,Z,T⟩|⟨I,Z,T⟩<;>rcases h' with ⟨g1,g2,g3⟩|⟨g1,g2,g3⟩
 ·have:=kK Z g2
  subst this;exact⟨rfl,by omega⟩
 ·exact absurd Z (g1 _ I)
 ·exact absurd g2 (I _ g1)
 ·omega
def i_.none(h:∀m,m<18446744073709551616->¬ enc m <+: l):i_ l 0 0 := .inr ⟨h,rfl,rfl⟩
def i_.lt(h:i_ l n k):n<18446744073709551616∧k<=10∧k<=l.length:=by
 rcases h with ⟨I,Z,T⟩|⟨I,Z,T⟩
 ·exact⟨I,by have:=eG I;omega,by have:=Z.length_le;omega⟩
 ·omega
def vz(h:Hi l i)(hi:i=l.length∨10<=i):∀m,m<18446744073709551616->¬ enc m <+: l:=λm hm hp=>by have I:=uj _ l i (lQ m) hp h;have Z:=hp.length_le;have T:=eG hm;omega
def t8(hi:i<l.length)(h:Hi l i)(H:18446744073709551616<=(l[i].toNat % 128)*128 ^ i):∀m,m<18446744073709551616->¬ enc m <+: l:=λm hm hp=>by have I:=uj _ l i (lQ m) hp h;have Z:=Fl _ l i hi hp I;rw[xW] at Z;omega
def Yh(hi:i<l.length)(h:Hi l i)(hl:l[i].toNat<128)(hp:enc m <+: l):enc m=l.take (i+1):=by have I:=uj _ l i (lQ m) hp h;have Z:=C8 _ l i hi (lQ m) hp I hl;obtain⟨r,rfl⟩:=hp;rw[<-Z,List.take_left'];rfl
def qZ(hi:i<l.length)(h:Hi l i)(hz:l[i]=0)(h0:0<i):∀m,m<18446744073709551616->¬ enc m <+: l:=λm _ hp=>by
 have e:=Yh hi h (by rw[hz];decide) hp;have hc:=lQ m;rw[e] at hc;have key:∀(l:aT)(i:Nat)(hi:i<l.length),l[i]=0->0<i->¬ Canon (l.take (i+1)):=by
  intro l;induction l with
  | nil=>intro i hi;simp at hi
  | cons c l ih=>
    intro i hi hz h0 hc;cases i with
    | zero=>omega
    | succ i=>
      cases l with
      | nil=>simp at hi
      | cons d l=>
        rw[cD,cD] at hc;cases i with
        | zero=>
          simp at hz;subst hz;exact hc.2.1 (by simp)
        | succ i=>
          refine ih (i+1) (by simpa using hi) (by simpa using hz) ap ?_;rw[cD];exact hc.2.2
 exact key l i hi hz h0 hc
def vA(hi:i<l.length)(h:Hi l i)(hl:l[i].toNat<128)(hz:l[i]≠0∨i=0)(hv:val (l.take (i+1))<18446744073709551616):i_ l (val (l.take (i+1))) (i+1):=by have e:=C7 _ (yN l i hi h hl hz);refine .inl ⟨hv,by rw[e];exact List.take_prefix _ _,?_⟩;rw[e,bn];omega
def Ds(hi:i<l.length)(h:Hi l i)(hc:128<=l[i].toNat):Hi l (i+1):=λj hj D8=>by
 by_cases he:j=i;·subst he;exact hc
 ·exact h j hj ap
def Dt:(Tryz.prog.info? 5).map (λi=>(i.zero,i.size,i.bytes))=some (some (.int .u8 0),1,1):=by kernel_rfl
theorem info_parts{e size:Nat}(h:(Tryz.prog.info? e).map (λi=>(i.zero,i.size,i.bytes))=some (some z,size,bytes)):∃i,Tryz.prog.info? e=some i∧i.zero=some z∧i.size=size∧i.bytes=bytes:=by
 cases hi:Tryz.prog.info? e with
 | none=>rw[hi] at h;cases h
 | some i=>rw[hi] at h;injection h with h;injection h with I Z;injection Z with Z T;exact⟨i,rfl,I,Z,T⟩
def MO:Elem N 23 5 1 1 (.int .u8 0):=⟨dh,info_parts Dt,rfl,by decide,by decide⟩
def New(w O:G)(b:Nat):Prop:=(w:Nat)<=b∧b<(O:Nat)
def yO(l:aT)(k:Nat):lg (l.take k)=(lg l).take (k*1):=by unfold lg;rw[List.map_take,cO]
def q_(l:aT)(k:Nat):lg (l.drop k)=(lg l).drop (k*1):=by unfold lg;rw[List.map_drop,cO]
def KZ(w:G)(h:dX l u w):(convert 23 9 u).run N w=.ok (aX ⟨l.toArray⟩) w:=F9 23 9 5 dh dw c_ w h
def yP(w:G)(h:Bytes w B A n l):(convert 23 9 (Y A n c)).run N w=.ok (aX ⟨l.toArray⟩) w:=qS 23 9 5 dh dw c_ w h
def mn(w:G):Own (w.alloc (.cells #[] 5)) (λb=>b=(w:Nat)) 5 1 (Y (some ⟨(w:Nat),0,none⟩) 0 0) 0 []:=Own.yx (World.ownsRow_made w #[] 0 (bh _) am rfl) (λg H=>by injection H with H;exact H.symm)
def oc(hO:Own w1 (ju (λb=>b=(w:Nat)) (w.alloc (.cells #[] 5)) w1) 5 1 v n xs)(hj:dP (λb=>b=(w:Nat)) (w.alloc (.cells #[] 5)) w1):Own w1 (New w w1) 5 1 v n xs∧Grow w w1:=by
 have hs:(w:Nat)<(w1:Nat):=by have:=hj.size;simp at this;omega
 refine⟨hO.mono (λb hb=>?_),((Below.refl (w:Nat) w).alloc (bh _) (.cells #[] 5)).trans (hj.below (B:=(w:Nat)) (λb hb=>by rw[hb];exact bh _) (by simp))⟩;rcases hb with rfl|⟨I,Z⟩
 ·exact⟨bh _,hs⟩
 ·simp at I;exact⟨by omega,Z⟩
def Fo{e size:Nat}(H:Grow w w1)(hO:Own w2 (ju (New w w1) w1 w2) e size v n xs)(hj:dP (New w w1) w1 w2):Own w2 (New w w2) e size v n xs∧Grow w w2:=by
 have I:=H.size;have Z:=hj.size;refine⟨hO.mono λb hb=>?_,Below.trans H (hj.below (B:=(w:Nat)) (λb hb=>hb.1) I)⟩;rcases hb with hb|hb
 ·exact⟨hb.1,by have:=hb.2;omega⟩
 ·exact⟨by have:=hb.1;omega,hb.2⟩
def nA{e size:Nat}{o:Obj}(H:Grow w w1)(hO:Own w2 (ju (New w w1) (w1.alloc o) w2) e size v n xs)(hj:dP (New w w1) (w1.alloc o) w2):Own w2 (New w w2) e size v n xs∧Grow w w2:=by
 have I:=H.size;have Z:=hj.size;simp at Z;refine⟨hO.mono λb hb=>?_,Below.trans H (Below.trans ((Below.refl (w1:Nat) w1).alloc (bh _) o |>.mono I) (hj.below (B:=(w:Nat)) (λb hb=>hb.1) (by simp;omega)))⟩;rcases hb with hb|hb
 ·exact⟨hb.1,by have:=hb.2;omega⟩
 ·have:=hb.1;simp at this;exact⟨by omega,hb.2⟩
def nB{e size:Nat}(hO:Own w1 (New w w1) e size v n xs)(o:Obj):Own (w1.alloc o) (New w w1) e size v n xs:=hO.grow (λb hb=>hb.2) ((Below.refl (w1:Nat) w1).alloc (bh _) o)
theorem jY(w:G)(A:aU)(n c:Nat)(l:aT)(h:Bytes w (w:Nat) A n l)(hn:n<=140737488355328):dF N 135 #[Y A n c] w λe O=>∃v,e=b5 v∧Own O (New w O) 5 1 v n (lg l)∧Grow w O:=by
 have lD:=λ(O:G)=>Lib.run_eql_slice_nil (P:=N) O 23 5 A n c 0 0 dh;cases A with
 | none=>
   have B4:n=0:=by
    rcases cn n with h0|h0
    ·exact h0
    ·obtain⟨_,e,_⟩:=h.2 h0;cases e
   subst B4;obtain rfl:l=[]:=bv h.len;go_in;go_wp2;go_ret;exact⟨_,rfl,Own.nil,Grow.refl _⟩
 | some ad=>
   go_in;go_wp2_with (at_builtin;refine stay ?_);refine dN ?_;refine fZ (V:=λb=>b=(w:Nat)) MO _ rfl (.tmp 5) (.tmp 6) rfl (Y (some ⟨(w:Nat),0,none⟩) 0 0) 0 [] rfl (mn w) (w:Nat) (some ad) n c (lg l) rfl (Reads.alloc h (bh _) _) mg ap ?_;intro v1 w1 l6 yl;simp only[cL,cC] at l6;obtain⟨l6,eO⟩:=oc l6 yl;go_wp2;go_ret;exact⟨v1,rfl,l6,eO⟩
def pi(w:G)(A:aU)(n c:Nat)(hn:n<=c):dF N 238 #[Y A n c] w λe O=>e=b5 (Y A n n)∧w=O:=by go_in;go_wp2;go_ret;exact⟨rfl,rfl⟩
def Fp(w:G)(V:aV)(v:E)(n:Nat)(l:aT)(h:Own w V 5 1 v n (lg l)):dF N 238 #[v] w λe O=>∃v',e=b5 v'∧w=O∧Own w V 5 1 v' n (lg l):=by obtain⟨A,c,rfl,W,hn,hm⟩:=h.reads;refine (pi w A n c hn).mono λe O ⟨he,hw⟩=>⟨_,he,hw,?_⟩;have:=h.cut (bh n);rwa [bH (by rw[h.1];omega)] at this
def Fq:∀x:Nat,x<256->bits .or .u8 (x:Int) 128=((x % 128+128:Nat):Int):=by decide +kernel
def a2a(m:Nat):bits .or .u8 ((m:Int) % 256) 128=((m % 128+128:Nat):Int):=by have:=Fq (m % 256) ap;rw[show ((m % 256:Nat):Int)=(m:Int) % 256 by omega] at this;rw[this];omega
def _root_.Go.Hop.Reads.pj{size:Nat}{ys:List E}(h:Reads w B size A n xs)(e:ys=xs):Reads w B size A n ys:=e▸h
def Du(w:G)(A:aU)(n c:Nat)(l:aT)(hb:Bytes w (w:Nat) A n l)(hn:n<=1099511627776)(m:Nat)(hm:m<18446744073709551616):dF N 182 #[Y A n c,ae ah m] w λe O=>∃v,e=b5 v∧Own O (New w O) 5 1 v (n+(enc m).length) (lg (l++enc m))∧Grow w O:=by
 have fp:=eG hm;go_in;go_wp2_with (go_at_call 135;refine (jY _ A n c l hb ap).mono ?_;rintro e w1 ⟨v1,rfl,l6,eO⟩);go_loopw [1,5] (λmv v wr=>∃(pre:aT)(m':Nat),mv=ae ah m'∧m'<18446744073709551616∧pre++enc m'=enc m∧Own wr (New w wr) 5 1 v (n+pre.length) (lg (l++pre))∧Grow w wr) (λmv _ _=>(intOf mv).toNat);case atStart=>exact⟨[],m,rfl,hm,rfl,by simpa using l6,eO⟩
 case round=>
  obtain⟨pre,m',rfl,hm',I6,hO,H⟩:=hrel;obtain⟨A1,c1,rfl,mK,oX,sF⟩:=hO.reads;have WO:pre.length<=10:=by have:=congrArg List.length I6;rw[bd] at this;omega
  have HP:=Q I6;clear I6;by_cases hgo:128<=m'
  ·have eor:=a2a m'
   go_wp2_with (at_builtin;refine stay ?_);refine dN ?_;refine fZ (V:=New w wr) MO _ rfl (.tmp 10) (.tmp 14) rfl (Y A1 (n+pre.length) c1) (n+pre.length) (lg (l++pre)) rfl (nB hO _) ((wr:Nat)+1) (some ⟨(wr:Nat),0,none⟩) 1 1 (lg [UInt8.ofNat (m' % 128+128)]) rfl (fO wr _ 5 _ rfl _ rfl |>.pj (by simp only[lg,bX,cS];rw[oK ap];push_cast;rfl)) mg ap ?_;intro v3 w3 oS nx;rw[<-jh,bp] at oS;obtain⟨oS,jU⟩:=nA H oS nx;clear nx hO mK;go_wp2_with fail;go_roundw;case rel=>exact⟨pre++[UInt8.ofNat (m' % 128+128)],m' / 128,by go_num,by omega,by rw[bp,List.singleton_append,<-my hgo];exact HP.out,by rw[bd,<-Nat.add_assoc];exact oS,jU⟩
   case measure=>simp[intOf];omega
  ·go_wp2_with (at_builtin;refine stay ?_)
   refine dN ?_;refine fZ (V:=New w wr) MO _ rfl (.tmp 18) (.tmp 21) rfl (Y A1 (n+pre.length) c1) (n+pre.length) (lg (l++pre)) rfl (nB hO _) ((wr:Nat)+1) (some ⟨(wr:Nat),0,none⟩) 1 1 (lg [UInt8.ofNat m']) rfl (fO wr _ 5 _ rfl _ rfl |>.pj (by simp only[lg,bX,cS];rw[oK ap])) mg ap ?_;intro v3 w3 oS nx;rw[<-jh,bp] at oS;obtain⟨oS,jU⟩:=nA H oS nx;have hP:=HP.out;rw[jx ap] at hP;rw[hP] at oS;have hL:=congrArg List.length hP;rw[bd,bw] at hL;have hL':n+pre.length+1=n+(enc m).length:=by omega
   rw[hL'] at oS;clear nx hO mK hP hL hL';obtain⟨A3,c3,rfl,kj,Tr,Ud⟩:=oS.reads;go_wp2_with (go_at_call 238;refine (Fp _ _ _ _ _ oS).mono ?_;rintro e w4 ⟨v4,rfl,rfl,hO4⟩);go_ret;exact⟨v4,rfl,hO4,jU⟩
end Go.Proofs.YtpeepcmdehhbgaaGreatDoor.V
