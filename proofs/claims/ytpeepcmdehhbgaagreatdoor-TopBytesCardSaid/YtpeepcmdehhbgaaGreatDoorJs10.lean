/- Wal, Mi1, Ld2. -/
import Derived.Test.YtpeepcmdehhbgaaGreatDoorJs07
import Derived.Test.YtpeepcmdehhbgaaGreatDoorJs05
import Derived.Ground.SlgnProg
import Derived.Shelf.SortG.Plain
import Derived.Shelf.SortG.SortNone
set_option linter.all false
set_option maxRecDepth 100000
open Go.Value renaming int->ae,slice->Z,string->aX,bool->aY,agg->aZ,tuple->a_
open Go.Ending renaming returned->b5
open Go.IntKind renaming i64->af,u64->ah
open Go (J az aE aA aB aC aD ay aj am ap aw aL aK aJ aI aH aV aU aT aR aQ aP aO aN)
open Go.Proofs.Tryz renaming prog->W,underlying9->cW,underlying5->dm,underlying3->dp
open Go.Lib renaming hid->Q
open List renaming length_take->bn,eq_nil_of_length_eq_zero->bu,getElem_mem->bF
open Nat renaming lt_of_lt_of_le->bw,le_trans->bB,zero_add->cJ
open Go renaming Value->K,World->X,Calls->dz
variable{l:aT}
namespace Go.Proofs.YtpeepcmdehhbgaaGreatDoor.V
open RowKit Hop
theorem IR.just{w O:X}{V D U:aV}{A:aU}{n:Nat}{q:List Bx}(h:IR w V D A n q)(hj:dM U w O)(hV:∀b,V b->¬ U b)(hD:∀b,D b->¬ U b):IR O V D A n q:=⟨h.row.just hj hV,λb hb=>(h.all b hb).just hj hD⟩
def eC(x d:Nat)(n:Int)(l:aT)(k:Nat):dW:=λw V=>
 V x∧eJ w x 278 #[d,J n]∧g9 120 d l k w (λb=>V b∧b≠x)
theorem eC.framed(x d:Nat)(n:Int)(l:aT)(k:Nat):eu (eC x d n l k):=λw O V h N=>by obtain⟨I,G,L⟩:=h;exact⟨I,(N x I).trans G,g9.framed _ d l k w O _ L λb hb=>N b hb.1⟩
theorem eC.wide{x d:Nat}{n:Int}{l:aT}{k:Nat}{w:X}{V V':aV}(h:eC x d n l k w V)(hV:∀b,V b->V' b):eC x d n l k w V':=⟨hV x h.1,h.2.1,h.2.2.wide λb hb=>⟨hV b hb.1,hb.2⟩⟩
def eC.turn{f:FuncId}{args:aP}{C:Ending->Prop}{x d:Nat}{n:Int}{l':aT}{k k':Nat}{w:X}(h:ii W f args C (g9 120 d l k) (g9 120 d l' k') w):ii W f args C (eC x d n l k) (eC x d n l' k') w:=by
 intro V ⟨I,G,L⟩ hV;refine (h _ L λb hb=>hV b hb.1).mono λe O ⟨he,hd,hj⟩=>⟨he,⟨.inl I,hj.blk G λh=>h.2 rfl,hd.wide λb hb=>?_⟩,hj.imp λb hb=>hb.1⟩;have:=hV x I;rcases hb with hb|hb
 ·exact⟨.inl hb.1,hb.2⟩
 ·exact⟨.inr hb,by have:=hb.1;omega⟩
def um(w:X)(x d:Nat)(n:Int)(l:aT)(k:Nat):ii W 242 #[x] (λe=>e=b5 (a_ #[])) (eC x d n l k) (eC x d n l l.length) w:=by intro V hL hV;have c0:=hL.2.1.cell 0;have ht:=eC.turn (x:=x) (n:=n) (MW w d l k) V hL hV;go_in;go_wp2_with fail;refine ht.mono ?_;rintro e w1 ⟨rfl,hL1,hj⟩;go_wp2;go_end0;exact⟨rfl,hL1,hj⟩
def i6(l b:aT):Int:=if b.length<=65536 then Bv l (frame b) else 3
def zg(l b:aT):List UInt8:=if b.length<=65536 then R7 l (frame b) else l
def Ku{b:aT}:Bv l b=0↔fits l b=true:=by
 unfold Bv;split;·simp_all
 ·simp_all
def va(w:X)(x d:Nat)(n:Int)(l:aT)(k:Nat)(A:aU)(m c:Nat)(b:aT)(hb:Bytes w (w:Nat) A m b)(hn:0<=n∧n<=1099511627776):ii W 241 #[x,Z A m c] (λe=>e=b5 (J (i6 l b))) (eC x d n l k) (eC x d (if i6 l b=0 then n+1 else n) (zg l b) k) w:=by
 intro V hL hV;have uV:=hb.len;by_cases hm:m<=65536
 ·have YR:b.length<=65536:=by omega
  unfold i6 zg;rw[aA YR,aA YR];cases hf:fits l (frame b) with
  | true=>
    have Fx:Bv l (frame b)=0:=Ku.2 hf;rw[Fx,aA rfl];have hB:=hL.2.1;go_in;go_wp2_with fail;refine (uj w A m c b hb hm).mono ?_;rintro e w1 ⟨v1,rfl,kv,eD⟩;obtain⟨A1,c1,rfl,lT,oK,ry⟩:=kv.reads;have c0:=(hB.grow eD).cell 0;have hL1:=eC.framed x d n l k w w1 V hL λb hb=>eD.block b (hV b hb);have ht:=eC.turn (x:=x) (n:=n) (xc w1 d l k A1 (frame b).length c1 (frame b) lT) V hL1 (λb hb=>bw (hV b hb) eD.size);rw[Fx] at ht;clear Fx;go_wp2_with fail;refine ht.mono ?_;rintro e w2 ⟨rfl,YX,k7⟩;have c1:=YX.2.1.cell 1;have f1:=YX.2.1.frozen 1;have wv:IntKind.i64.wrap (n+1)=n+1:=by rw[IntKind.wrap_i64];omega
    go_wp2;go_ret;refine⟨rfl,⟨.inl hL.1,YX.2.1.put 1 _,?_⟩,((dM.dK eD).trans k7).put hL.1 1 _⟩;refine (g9.framed _ d _ _ w2 _ _ YX.2.2 λb hb=>(kD w2 x 1 _).block b ?_ hb.2).wide λb hb=>⟨?_,hb.2⟩
    ·have:=k7.size
     rcases hb.1 with h|h
     ·have:=hV b h;have:=eD.size;omega
     ·exact h.2
    ·rcases hb.1 with h|h
     ·exact .inl h
     ·exact .inr ⟨bB eD.size h.1,by rw[gg];exact h.2⟩
  | false=>
    have Fx:Bv l (frame b)=24:=by unfold Bv;rw[hf];rfl
    rw[Fx,aB am];have hB:=hL.2.1;go_in;go_wp2_with fail;refine (uj w A m c b hb hm).mono ?_;rintro e w1 ⟨v1,rfl,kv,eD⟩;obtain⟨A1,c1,rfl,lT,oK,ry⟩:=kv.reads;have c0:=(hB.grow eD).cell 0;have hL1:=eC.framed x d n l k w w1 V hL λb hb=>eD.block b (hV b hb);have ht:=eC.turn (x:=x) (n:=n) (xc w1 d l k A1 (frame b).length c1 (frame b) lT) V hL1 (λb hb=>bw (hV b hb) eD.size);rw[Fx] at ht;clear Fx;go_wp2_with fail;refine ht.mono ?_;rintro e w2 ⟨rfl,YX,k7⟩;go_wp2;go_ret;refine⟨rfl,YX.wide λb hb=>?_,(dM.dK eD).trans k7⟩;rcases hb with h|h
    ·exact .inl h
    ·exact .inr ⟨bB eD.size h.1,h.2⟩
 ·have YR:¬ b.length<=65536:=by omega
  unfold i6 zg;rw[aB YR,aB YR,aB ap];go_in;go_wp2_with fail;refine (xl w A m c ap).mono ?_;rintro e w1 ⟨rfl,rfl⟩;go_wp2;go_ret;exact⟨rfl,hL.wide λb hb => .inl hb,dM.dK (Grow.refl w)⟩
end Go.Proofs.YtpeepcmdehhbgaaGreatDoor.V
namespace Go.Proofs.YtpeepcmdehhbgaaGreatDoor
open RowKit Hop
def Dk:Go.Shelf.Ren:=⟨λ|53=>236|64=>192|63=>298|78=>254|79=>255|70=>341|71=>342|72=>343|73=>344|74=>345|75=>346|59=>347|76=>348|77=>349|88=>373|89=>313|90=>314|91=>374|92=>375|68=>295|96=>379|n=>n,λ|22=>72|23=>2|3=>3|51=>62|0=>0|67=>61|69=>42|4=>4|61=>340|60=>339|44=>344|5=>5|9=>9|75=>390|79=>393|83=>417|84=>418|n=>n,λ|n=>n⟩
def IU:Go.Proofs.SlLaysN.n53 W Dk:={
 mixed:=by kernel_rfl
 f53:=⟨Tryz.f236.name,by decide,Tryz.func236.trans (congrArg some aw)⟩
 f59:=⟨Tryz.f347.name,by decide,Tryz.func347.trans (congrArg some aw)⟩
 f63:=⟨Tryz.f298.name,by decide,Tryz.func298.trans (congrArg some aw)⟩
 f64:=Tryz.func192.trans (congrArg some aw)
 f68:=⟨Tryz.f295.name,by decide,Tryz.func295.trans (congrArg some aw)⟩
 f70:=⟨Tryz.f341.name,by decide,Tryz.func341.trans (congrArg some aw)⟩
 f71:=⟨Tryz.f342.name,by decide,Tryz.func342.trans (congrArg some aw)⟩
 f72:=⟨Tryz.f343.name,by decide,Tryz.func343.trans (congrArg some aw)⟩
 f73:=⟨Tryz.f344.name,by decide,Tryz.func344.trans (congrArg some aw)⟩
 f74:=⟨Tryz.f345.name,by decide,Tryz.func345.trans (congrArg some aw)⟩
 f75:=⟨Tryz.f346.name,by decide,Tryz.func346.trans (congrArg some aw)⟩
 f76:=⟨Tryz.f348.name,by decide,Tryz.func348.trans (congrArg some aw)⟩
 f77:=⟨Tryz.f349.name,by decide,Tryz.func349.trans (congrArg some aw)⟩
 f78:=Tryz.func254.trans (congrArg some aw)
 f79:=Tryz.func255.trans (congrArg some aw)
 f88:=⟨Tryz.f373.name,by decide,Tryz.func373.trans (congrArg some aw)⟩
 f89:=Tryz.func313.trans (congrArg some aw)
 f90:=Tryz.func314.trans (congrArg some aw)
 f91:=⟨Tryz.f374.name,by decide,Tryz.func374.trans (congrArg some aw)⟩
 f92:=⟨Tryz.f375.name,by decide,Tryz.func375.trans (congrArg some aw)⟩
 f96:=⟨Tryz.f379.name,by decide,Tryz.func379.trans (congrArg some aw)⟩
 t0:=Tryz.underlying0
 a0:=Tryz.isAgg0
 z0:=Tryz.sizeOf0
 v0:=Tryz.zeroValue0
 t3:=dp
 a3:=Tryz.isAgg3
 z3:=Tryz.sizeOf3
 v3:=Tryz.zeroValue3
 t4:=Tryz.underlying4
 a4:=Tryz.isAgg4
 z4:=Tryz.sizeOf4
 v4:=Tryz.zeroValue4
 t5:=dm
 a5:=Tryz.isAgg5
 z5:=Tryz.sizeOf5
 v5:=Tryz.zeroValue5
 t9:=cW
 a9:=Tryz.isAgg9
 z9:=Tryz.sizeOf9
 v9:=Tryz.zeroValue9
 t22:=Tryz.underlying72
 a22:=Tryz.isAgg72
 z22:=Tryz.sizeOf72
 v22:=Tryz.zeroValue72
 t23:=Tryz.underlying2
 a23:=Tryz.isAgg2
 z23:=Tryz.sizeOf2
 v23:=Tryz.zeroValue2
 t44:=Tryz.underlying344
 a44:=Tryz.isAgg344
 z44:=Tryz.sizeOf344
 v44:=Tryz.zeroValue344
 t51:=Tryz.underlying62
 a51:=Tryz.isAgg62
 z51:=Tryz.sizeOf62
 v51:=Tryz.zeroValue62
 t60:=Tryz.underlying339
 a60:=Tryz.isAgg339
 z60:=Tryz.sizeOf339
 v60:=Tryz.zeroValue339
 t61:=Tryz.underlying340
 a61:=Tryz.isAgg340
 z61:=Tryz.sizeOf340
 v61:=Tryz.zeroValue340
 t67:=Tryz.underlying61
 a67:=Tryz.isAgg61
 z67:=Tryz.sizeOf61
 v67:=Tryz.zeroValue61
 t69:=Tryz.underlying42
 a69:=Tryz.isAgg42
 z69:=Tryz.sizeOf42
 v69:=Tryz.zeroValue42
 t75:=Tryz.underlying390
 a75:=Tryz.isAgg390
 z75:=Tryz.sizeOf390
 v75:=Tryz.zeroValue390
 t79:=Tryz.underlying393
 a79:=Tryz.isAgg393
 z79:=Tryz.sizeOf393
 v79:=Tryz.zeroValue393
 t83:=Tryz.underlying417
 a83:=Tryz.isAgg417
 z83:=Tryz.sizeOf417
 v83:=Tryz.zeroValue417
 t84:=Tryz.underlying418
 a84:=Tryz.isAgg418
 z84:=Tryz.sizeOf418
 v84:=Tryz.zeroValue418 }
def lI(l:aN):List K:=l.map (Value.int .i64)
def oZ(l:aN):(lI l).length=l.length:=by simp[lI]
def Nr(l:aN):∀u∈lI l,u.oneCell'=true:=λu hu=>by obtain⟨x,_,rfl⟩:=List.mem_map.1 hu;rfl
def zT(l:aN){j:Nat}(hj:j<l.length):(lI l)[j]?=some (J l[j]):=by simp[lI,hj]
def a3S:Elem W 72 2 1 8 (J 0):=⟨Tryz.underlying72,info_parts aw,rfl,by decide,by decide⟩
def pB(l:aN):List Int:=l.mergeSort λx y=>decide (x<=y)
def xq(l:aN):(pB l).Perm l:=List.mergeSort_perm _ _
def o_(l:aN):(pB l).length=l.length:=(xq l).length_eq
def Kv(w:X)(V:aV)(v:K)(l:aN)(T:Own w V 2 1 v l.length (lI l))(hl:l.length<4611686018427387904):dz W 236 #[v] w λe O=>e=b5 (a_ #[])∧Own O V 2 1 v (pB l).length (lI (pB l))∧dM V w O:=by
 obtain⟨fj,⟨rfl,h0⟩|⟨g,cap,cur,rfl,hV,H,kM,iO,jQ,j9⟩⟩:=T
 ·have hn:l=[]:=bu h0
  subst hn;refine (Go.Proofs.AnyG.slices_Sort_int_none IU none 0 w).mono λe O ⟨I,G⟩=>⟨I,?_,?_⟩
  ·have:pB []=[]:=by simp[pB]
   rw[this];exact⟨rfl,.inl ⟨rfl,rfl⟩⟩
  ·rw[G]
   exact dM.dK (Grow.refl _)
 have z8:g<(w:Nat):=(Array.getElem?_eq_some_iff.1 H).1;have za:l.length<=cur.size:=by have:=congrArg List.length j9;rw[bn,oZ] at this;simp at this;omega
 have hH:Sort.Holds (Value.int .i64) w g 0 l.toArray:=λj hj=>by
  have lR:j<l.length:=by simpa using hj
  have E:=zT l lR;rw[<-j9,List.getElem?_take_of_lt ap,Array.getElem?_toList] at E;refine⟨?_,?_⟩
  ·unfold World.cell?
   simp only[H,cJ];rw[E];simp[lR]
  ·unfold World.frozen?
   simp only[H];simp
 refine (Go.Proofs.AnyG.slices_Sort_int IU g 0 cap l w hH z8 hl).mono ?_;rintro e O ⟨he,n,os,rfl⟩;obtain⟨s,HS⟩:=aE (pB l:aN);have sA:s.length=l.length:=by rw[HS];exact o_ l
 change e=_∧Own (Sort.grow (Sort.putRow (Value.int .i64) (Sort.ahead w n) g 0 (pB l).toArray) os) V _ 1 _ (pB l).length (lI (pB l))∧dM V w (Sort.grow (Sort.putRow (Value.int .i64) (Sort.ahead w n) g 0 (pB l).toArray) os);rw[<-HS];have Iu:(Sort.grow (Sort.putRow (Value.int .i64) (Sort.ahead w n) g 0 s.toArray) os).heap[g]?=some (.cells (Sort.putCells (Value.int .i64) 0 s.toArray cur) 2 (0,0)):=by show ((w.heap.modify g (Sort.onCells (Sort.putCells (Value.int .i64) 0 s.toArray)))++os)[g]?=_;rw[Array.getElem?_append_left (by simpa using z8),Array.getElem?_modify,aA rfl,H];rfl
 have Fb:(Sort.putCells (Value.int .i64) 0 s.toArray cur).size=cur.size:=by simp[Sort.putCells]
 have iZ:(w:Nat)<=(Sort.grow (Sort.putRow (Value.int .i64) (Sort.ahead w n) g 0 s.toArray) os).heap.size:=by show (w:Nat)<=((w.heap.modify g (Sort.onCells (Sort.putCells (Value.int .i64) 0 s.toArray)))++os).size;simp
 refine⟨he,⟨by rw[oZ];omega,.inr ⟨g,cap,_,by rw[sA],hV,Iu,by omega,iO,by rw[Fb,sA];exact jQ,?_⟩⟩,⟨rfl,rfl,rfl,iZ,λb hb Y2=>?_⟩⟩
 ·apply List.ext_getElem?
  intro j;by_cases hj:j<s.length
  ·rw[List.getElem?_take_of_lt ap,Array.getElem?_toList,zT s hj]
   have hjc:j<cur.size:=by omega
   simp[Sort.putCells,hjc,hj]
  ·rw[List.getElem?_eq_none (by rw[bn];omega),List.getElem?_eq_none (by rw[oZ];omega)]
 ·have vn:b<(w.heap.modify g (Sort.onCells (Sort.putCells (Value.int .i64) 0 s.toArray))).size:=by simpa using hb
  show ((w.heap.modify g (Sort.onCells (Sort.putCells (Value.int .i64) 0 s.toArray)))++os)[b]?=w.heap[b]?;rw[Array.getElem?_append_left vn,Array.getElem?_modify,aB (λe=>Y2 (by rw[<-e];exact hV))]
def Ns(w:X)(V:aV)(A:aU)(n c:Nat)(l:aN)(x:Int)(h:In w V 1 A n (lI l))(hn:n<=1048576):dz W 234 #[Z A n c,J x] w λe O=>∃z:Int,e=b5 (J z)∧(0<=z↔x∈l)∧w=O:=by
 have wu:l.length=n:=by have:=h.1;rw[oZ] at this;omega
 go_in;go_wp2_with fail;go_loopw [8] (λi wr=>∃k:Nat,k<=n∧i=J k∧(∀(j:Nat)(hj:j<l.length),j<k->l[j]≠x)∧w=wr) (λi _=>n-(intOf i).toNat);case atStart=>exact⟨0,by omega,rfl,λj hj h0=>absurd h0 ap,rfl⟩
 case round=>
  obtain⟨k,oL,rfl,kh,rfl⟩:=hrel;by_cases N:k<n
  ·have hd:decide ((k:Int)<(n:Int))=true:=aC ap
   obtain⟨ad,rfl,hVa,hba,E⟩:=h.2 ap;have o9:=E k _ (zT l (show k<l.length by omega));have HK:Hid (l[k]=x->x∈l):=Q λe=>e▸bF _;have HN:Hid (l[k]≠x->∀(j:Nat)(hj:j<l.length),j<k+1->l[j]≠x):=Q λh0 j hj Vb=>by
    rcases Nat.lt_or_ge j k with I|I
    ·exact kh j hj I
    ·have:j=k:=by omega
     subst this;exact h0
   generalize l[k]=y at o9 HK HN;clear kh E h;by_cases I:y=x
   ·have e1:decide (x=y)=true:=aC I.symm
    have e2:(x == y)=true:=by simpa using I.symm
    have Y:=Q (HK.out I);clear I HK HN;go_wp2;go_ret;exact⟨(k:Int),rfl,⟨λ_=>Y.out,λ_=>by omega⟩,rfl⟩
   ·have e1:decide (x=y)=false:=aD λe=>I e.symm
    have e2:(x == y)=false:=by simpa using λe=>I (Eq.symm e)
    have NO:=Q (HN.out I);clear I HK HN;go_wp2_with fail;go_roundw;case rel=>exact⟨k+1,by omega,by simp,NO.out,trivial⟩
    case measure=>simp only[intOf];omega
  ·obtain rfl:k=n:=by omega
   have hd:decide ((k:Int)<(k:Int))=false:=aD ap;go_wp2;go_ret;refine⟨-1,rfl,⟨λh=>absurd h ap,λh=>?_⟩,rfl⟩;obtain⟨j,hj,rfl⟩:=List.getElem_of_mem h;exact absurd rfl (kh j hj ap)
def zU(w:X)(V:aV)(A:aU)(n c:Nat)(l:aN)(x:Int)(h:In w V 1 A n (lI l))(hn:n<=1048576):dz W 176 #[Z A n c,J x] w λe O=>e=b5 (aY (decide (x∈l)))∧Grow w O:=by
 have hI:=Ns w V A n c l x h hn;obtain⟨r,HR⟩:=az (decide (x∈l):Bool);go_in;go_wp2_with fail;refine hI.mono ?_;rintro e w1 ⟨z,rfl,hz,rfl⟩;by_cases h0:0<=z
 ·have hd:decide ((0:Int)<=z)=true:=aC h0
  have hr:r=true:=by rw[HR.out];exact aC (hz.1 h0)
  subst hr;clear hz h0;go_wp2;go_ret;exact⟨by rw[<-HR.out];rfl,Grow.refl _⟩
 ·have hd:decide ((0:Int)<=z)=false:=aD h0
  have hr:r=false:=by rw[HR.out];exact aD λhm=>h0 (hz.2 hm)
  subst hr;clear hz h0;go_wp2;go_ret;exact⟨by rw[<-HR.out];rfl,Grow.refl _⟩
def Dm:Go.Shelf.Ren:=⟨λ|53=>190|64=>192|63=>245|78=>254|79=>255|70=>303|71=>304|72=>305|73=>306|74=>307|75=>308|59=>309|76=>310|77=>311|88=>350|89=>313|90=>314|91=>351|92=>352|68=>294|96=>376|n=>n,λ|22=>22|23=>3|3=>3|51=>62|0=>0|67=>61|69=>42|4=>4|61=>340|60=>339|44=>344|5=>5|9=>9|75=>390|79=>393|83=>417|84=>418|n=>n,λ|n=>n⟩
def sortInt:Go.Proofs.SlLaysN.n53 W Dm:={
 mixed:=by kernel_rfl
 f53:=⟨Tryz.f190.name,by decide,Tryz.func190.trans (congrArg some aw)⟩
 f59:=⟨Tryz.f309.name,by decide,Tryz.func309.trans (congrArg some aw)⟩
 f63:=⟨Tryz.f245.name,by decide,Tryz.func245.trans (congrArg some aw)⟩
 f64:=Tryz.func192.trans (congrArg some aw)
 f68:=⟨Tryz.f294.name,by decide,Tryz.func294.trans (congrArg some aw)⟩
 f70:=⟨Tryz.f303.name,by decide,Tryz.func303.trans (congrArg some aw)⟩
 f71:=⟨Tryz.f304.name,by decide,Tryz.func304.trans (congrArg some aw)⟩
 f72:=⟨Tryz.f305.name,by decide,Tryz.func305.trans (congrArg some aw)⟩
 f73:=⟨Tryz.f306.name,by decide,Tryz.func306.trans (congrArg some aw)⟩
 f74:=⟨Tryz.f307.name,by decide,Tryz.func307.trans (congrArg some aw)⟩
 f75:=⟨Tryz.f308.name,by decide,Tryz.func308.trans (congrArg some aw)⟩
 f76:=⟨Tryz.f310.name,by decide,Tryz.func310.trans (congrArg some aw)⟩
 f77:=⟨Tryz.f311.name,by decide,Tryz.func311.trans (congrArg some aw)⟩
 f78:=Tryz.func254.trans (congrArg some aw)
 f79:=Tryz.func255.trans (congrArg some aw)
 f88:=⟨Tryz.f350.name,by decide,Tryz.func350.trans (congrArg some aw)⟩
 f89:=Tryz.func313.trans (congrArg some aw)
 f90:=Tryz.func314.trans (congrArg some aw)
 f91:=⟨Tryz.f351.name,by decide,Tryz.func351.trans (congrArg some aw)⟩
 f92:=⟨Tryz.f352.name,by decide,Tryz.func352.trans (congrArg some aw)⟩
 f96:=⟨Tryz.f376.name,by decide,Tryz.func376.trans (congrArg some aw)⟩
 t0:=Tryz.underlying0
 a0:=Tryz.isAgg0
 z0:=Tryz.sizeOf0
 v0:=Tryz.zeroValue0
 t3:=dp
 a3:=Tryz.isAgg3
 z3:=Tryz.sizeOf3
 v3:=Tryz.zeroValue3
 t4:=Tryz.underlying4
 a4:=Tryz.isAgg4
 z4:=Tryz.sizeOf4
 v4:=Tryz.zeroValue4
 t5:=dm
 a5:=Tryz.isAgg5
 z5:=Tryz.sizeOf5
 v5:=Tryz.zeroValue5
 t9:=cW
 a9:=Tryz.isAgg9
 z9:=Tryz.sizeOf9
 v9:=Tryz.zeroValue9
 t22:=Tryz.underlying22
 a22:=Tryz.isAgg22
 z22:=Tryz.sizeOf22
 v22:=Tryz.zeroValue22
 t23:=dp
 a23:=Tryz.isAgg3
 z23:=Tryz.sizeOf3
 v23:=Tryz.zeroValue3
 t44:=Tryz.underlying344
 a44:=Tryz.isAgg344
 z44:=Tryz.sizeOf344
 v44:=Tryz.zeroValue344
 t51:=Tryz.underlying62
 a51:=Tryz.isAgg62
 z51:=Tryz.sizeOf62
 v51:=Tryz.zeroValue62
 t60:=Tryz.underlying339
 a60:=Tryz.isAgg339
 z60:=Tryz.sizeOf339
 v60:=Tryz.zeroValue339
 t61:=Tryz.underlying340
 a61:=Tryz.isAgg340
 z61:=Tryz.sizeOf340
 v61:=Tryz.zeroValue340
 t67:=Tryz.underlying61
 a67:=Tryz.isAgg61
 z67:=Tryz.sizeOf61
 v67:=Tryz.zeroValue61
 t69:=Tryz.underlying42
 a69:=Tryz.isAgg42
 z69:=Tryz.sizeOf42
 v69:=Tryz.zeroValue42
 t75:=Tryz.underlying390
 a75:=Tryz.isAgg390
 z75:=Tryz.sizeOf390
 v75:=Tryz.zeroValue390
 t79:=Tryz.underlying393
 a79:=Tryz.isAgg393
 z79:=Tryz.sizeOf393
 v79:=Tryz.zeroValue393
 t83:=Tryz.underlying417
 a83:=Tryz.isAgg417
 z83:=Tryz.sizeOf417
 v83:=Tryz.zeroValue417
 t84:=Tryz.underlying418
 a84:=Tryz.isAgg418
 z84:=Tryz.sizeOf418
 v84:=Tryz.zeroValue418 }
def Zt:Elem W 22 3 1 8 (J 0):=⟨Tryz.underlying22,info_parts aw,rfl,by decide,by decide⟩
def Kw(w:X)(V:aV)(v:K)(l:aN)(T:Own w V 3 1 v l.length (lI l))(hl:l.length<4611686018427387904):dz W 190 #[v] w λe O=>e=b5 (a_ #[])∧Own O V 3 1 v (pB l).length (lI (pB l))∧dM V w O:=by
 obtain⟨fj,⟨rfl,h0⟩|⟨g,cap,cur,rfl,hV,H,kM,iO,jQ,j9⟩⟩:=T
 ·have hn:l=[]:=bu h0
  subst hn;refine (Go.Proofs.AnyG.slices_Sort_int_none sortInt none 0 w).mono λe O ⟨I,G⟩=>⟨I,?_,?_⟩
  ·have:pB []=[]:=by simp[pB]
   rw[this];exact⟨rfl,.inl ⟨rfl,rfl⟩⟩
  ·rw[G]
   exact dM.dK (Grow.refl _)
 have z8:g<(w:Nat):=(Array.getElem?_eq_some_iff.1 H).1;have za:l.length<=cur.size:=by have:=congrArg List.length j9;rw[bn,oZ] at this;simp at this;omega
 have hH:Sort.Holds (Value.int .i64) w g 0 l.toArray:=λj hj=>by
  have lR:j<l.length:=by simpa using hj
  have E:=zT l lR;rw[<-j9,List.getElem?_take_of_lt ap,Array.getElem?_toList] at E;refine⟨?_,?_⟩
  ·unfold World.cell?
   simp only[H,cJ];rw[E];simp[lR]
  ·unfold World.frozen?
   simp only[H];simp
 refine (Go.Proofs.AnyG.slices_Sort_int sortInt g 0 cap l w hH z8 hl).mono ?_;rintro e O ⟨he,n,os,rfl⟩;obtain⟨s,HS⟩:=aE (pB l:aN);have sA:s.length=l.length:=by rw[HS];exact o_ l
 change e=_∧Own (Sort.grow (Sort.putRow (Value.int .i64) (Sort.ahead w n) g 0 (pB l).toArray) os) V _ 1 _ (pB l).length (lI (pB l))∧dM V w (Sort.grow (Sort.putRow (Value.int .i64) (Sort.ahead w n) g 0 (pB l).toArray) os);rw[<-HS];have Iu:(Sort.grow (Sort.putRow (Value.int .i64) (Sort.ahead w n) g 0 s.toArray) os).heap[g]?=some (.cells (Sort.putCells (Value.int .i64) 0 s.toArray cur) 3 (0,0)):=by show ((w.heap.modify g (Sort.onCells (Sort.putCells (Value.int .i64) 0 s.toArray)))++os)[g]?=_;rw[Array.getElem?_append_left (by simpa using z8),Array.getElem?_modify,aA rfl,H];rfl
 have Fb:(Sort.putCells (Value.int .i64) 0 s.toArray cur).size=cur.size:=by simp[Sort.putCells]
 have iZ:(w:Nat)<=(Sort.grow (Sort.putRow (Value.int .i64) (Sort.ahead w n) g 0 s.toArray) os).heap.size:=by show (w:Nat)<=((w.heap.modify g (Sort.onCells (Sort.putCells (Value.int .i64) 0 s.toArray)))++os).size;simp
 refine⟨he,⟨by rw[oZ];omega,.inr ⟨g,cap,_,by rw[sA],hV,Iu,by omega,iO,by rw[Fb,sA];exact jQ,?_⟩⟩,⟨rfl,rfl,rfl,iZ,λb hb Y2=>?_⟩⟩
 ·apply List.ext_getElem?
  intro j;by_cases hj:j<s.length
  ·rw[List.getElem?_take_of_lt ap,Array.getElem?_toList,zT s hj]
   have hjc:j<cur.size:=by omega
   simp[Sort.putCells,hjc,hj]
  ·rw[List.getElem?_eq_none (by rw[bn];omega),List.getElem?_eq_none (by rw[oZ];omega)]
 ·have vn:b<(w.heap.modify g (Sort.onCells (Sort.putCells (Value.int .i64) 0 s.toArray))).size:=by simpa using hb
  show ((w.heap.modify g (Sort.onCells (Sort.putCells (Value.int .i64) 0 s.toArray)))++os)[b]?=w.heap[b]?;rw[Array.getElem?_append_left vn,Array.getElem?_modify,aB (λe=>Y2 (by rw[<-e];exact hV))]
end Go.Proofs.YtpeepcmdehhbgaaGreatDoor
