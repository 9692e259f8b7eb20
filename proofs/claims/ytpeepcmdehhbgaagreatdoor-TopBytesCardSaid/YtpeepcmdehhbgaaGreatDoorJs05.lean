/- Disk, Disk2, Crash, Dref, Dreads, Qbat, Qsome, Sta, Ao7, Nelt, Nent, Hld, Slt, Cplain. -/
import Derived.Test.YtpeepcmdehhbgaaGreatDoorJs03
import Derived.OrdersHeld
import Derived.Sort.Walk0
set_option linter.all false
set_option maxRecDepth 100000
open Go.Value renaming int->ae,slice->Z,string->aX,bool->aY,agg->aZ,tuple->a_
open Go.Ending renaming returned->b5
open Go.IntKind renaming i64->af,u64->ah
open Go (J az aE aA aB aC aD ay aj am ap aw aL aK aJ aI aH aV aU aT aR aQ aP aO aN)
open Go.Proofs.Tryz renaming prog->W,underlying23->d9
open Go.Lib renaming hid->Q
open List renaming length_append->bd,length_map->bj,append_nil->bm,length_take->bn,take_succ_eq_append_getElem->br,eq_nil_of_length_eq_zero->bu,length_cons->bD,getElem_mem->bF,take_of_length_le->bH,map_append->bI,flatMap_cons->bJ,flatMap_append->bL,map_cons->bQ,range->bV,mem_of_mem_take->bW,nil_append->ch,flatMap_nil->cE,not_mem_nil->cF,mem_cons->cI,map_congr_left->cO,take_append_drop->dt
open Nat renaming le_refl->bh,zero_le->bo,lt_of_lt_of_le->bw,le_trans->bB,eq_zero_or_pos->b_,zero_add->cJ
open Go.Region renaming wanted->bN,ready->cC,noSelect->cZ
open Bool renaming and_eq_true->bU
open Go renaming Value->K,World->X,Calls->dz,Addr->dA,TypeId->dC,Program->dD,Oper->dE,Act->dF,maxLen->dG
variable{w w0 O:X}{V D V' U:aV}{a b x c:aR}{nodes i:Int}{n k g:Nat}{l:aT}{A:aU}{o:dE}{P:dD}{a':dF}
namespace Go.Proofs.YtpeepcmdehhbgaaGreatDoor.V
open RowKit Hop
def g9.wide{t d:Nat}(h:g9 t d l k w V)(hV:∀b,V b->V' b):g9 t d l k w V':=by obtain⟨I,G,L,v,h4,h5⟩:=h;exact⟨hV d I,G,L,v,h4,h5.mono λb hb=>⟨hV b hb.1,hb.2⟩⟩
def VD{n:Int}(h:sI l n=true):∃m:Nat,n=(m:Int)∧m<=l.length:=by unfold sI at h;rw[bU,decide_eq_true_eq,decide_eq_true_eq] at h;exact⟨n.toNat,by omega,by omega⟩
def MW(w:X)(d:Nat)(l:aT)(k:Nat):ii W 301 #[d] (λe=>e=b5 (a_ #[])) (g9 120 d l k) (g9 120 d l l.length) w:=by intro V ⟨hd,N,hl,v,hB,hO⟩ hV;obtain⟨A,c,rfl,T,hn,hm⟩:=hO.reads;have c0:=hB.cell 0;have f0:=hB.frozen 1;have c1:=hB.cell 1;go_in;go_wp2;go_end0;exact⟨rfl,⟨.inl hd,bh _,hl,_,hB.put 1 _,(hO.put (λh=>h.2 rfl) 1 _).mono λb hb=>⟨.inl hb.1,hb.2⟩⟩,(dM.dK (Grow.refl w)).put hd 1 _⟩
def VE(w:X)(d:Nat)(l:aT)(k:Nat)(n:Int)(hn:-9223372036854775808<=n∧n<=9223372036854775807)(E:sI l n=false):ii W 180 #[d,J n] (λe=>e=b5 (aY false)) (g9 120 d l k) (g9 120 d l k) w:=by
 intro V hD hV;have hD':=hD;obtain⟨hd,N,hl,v,hB,hO⟩:=hD;obtain⟨A,c,rfl,T,iS,hm⟩:=hO.reads;have c0:=hB.cell 0;unfold sI at E;rw[Bool.and_eq_false_iff,decide_eq_false_iff_not,decide_eq_false_iff_not] at E;by_cases h0:n<0
 ·go_in
  go_wp2;go_ret;exact⟨rfl,g9.wide hD' (λ_ => .inl),dM.dK (Grow.refl w)⟩
 ·have I:(l.length:Int)<n:=by omega
  go_in;go_wp2;go_ret;exact⟨rfl,g9.wide hD' (λ_ => .inl),dM.dK (Grow.refl w)⟩
def IJ(w:X)(d:Nat)(l:aT)(k m:Nat)(hm:m<=l.length):ii W 180 #[d,J m] (λe=>e=b5 (aY true)) (g9 120 d l k) (g9 120 d (l.take m) m) w:=by
 intro V ⟨hd,N,hl,v,hB,hO⟩ hV;obtain⟨A,c,rfl,T,iS,E⟩:=hO.reads;have sw:=hO.cut hm;have c0:=hB.cell 0;have f0:=hB.frozen 0;have f1:=hB.frozen 1;have c1:=hB.cell 1;have Fv:(l.take m).length=m:=by rw[bn];omega
 go_in;go_wp2_with (go_at_call 238;refine (od _ A m c ap).mono ?_;rintro e w1 ⟨rfl,rfl⟩);go_ret;have lS:=(hB.put 0 (Z A m m)).put 1 (J m);refine⟨rfl,⟨.inl hd,by omega,by omega,_,lS,?_⟩,((dM.dK (Grow.refl w)).put hd 0 _).put hd 1 _⟩;rw[Fv,w_];exact ((sw.put (λh=>h.2 rfl) 0 _).put (λh=>h.2 rfl) 1 _).mono λb hb=>⟨.inl hb.1,hb.2⟩
def Km(w:X)(d:Nat)(l:aT)(k:Nat)(A:aU)(n c:Nat)(b:aT)(hb:Bytes w (w:Nat) A n b)(hf:fits l b=false):ii W 300 #[d,Z A n c] (λe=>e=b5 (J 24)) (g9 120 d l k) (g9 120 d l k) w:=by
 intro V hD hV;have hD':=hD;obtain⟨hd,N,hl,v,hB,hO⟩:=hD;obtain⟨A1,c1,rfl,T,iS,hm⟩:=hO.reads;have c0:=hB.cell 0;have uV:=hb.len;have hf':¬ l.length+n<=1048576:=by rw[<-uV];exact of_decide_eq_false hf
 go_in;go_wp2;go_ret;exact⟨rfl,g9.wide hD' (λ_ => .inl),dM.dK (Grow.refl w)⟩
def FW(w:X)(d:Nat)(l:aT)(k:Nat)(A:aU)(n c:Nat)(b:aT)(hb:Bytes w (w:Nat) A n b)(hf:fits l b=true):ii W 300 #[d,Z A n c] (λe=>e=b5 (J 0)) (g9 120 d l k) (g9 120 d (l++b) k) w:=by
 intro V ⟨hd,N,hl,v,hB,hO⟩ hV;obtain⟨A1,c1,rfl,T,iS,hm⟩:=hO.reads;have c0:=hB.cell 0;have uV:=hb.len;have hf':l.length+n<=1048576:=by rw[<-uV];exact of_decide_eq_true hf
 go_in;go_wp2_with (at_builtin;refine stay ?_);refine dI ?_;refine fO Kj _ rfl (.tmp 18) (.tmp 19) rfl (Z A1 l.length c1) l.length (kz l) rfl hO (w:Nat) A n c (kz b) rfl hb lx ap ?_;intro v1 w1 kv wo;have ky:=wo.blk hB (λh=>h.2 rfl);obtain⟨A2,c2,rfl,gS,_,_⟩:=kv.reads;have f1:=ky.frozen 0;have c1:=ky.cell 0;go_wp2;go_ret;have pK:=hB.lt;rw[<-iT] at kv;have wu:(l++b).length=l.length+n:=by rw[bd,uV]
 refine⟨rfl,⟨.inl hd,by omega,by omega,_,ky.put 0 _,?_⟩,(wo.imp λk N=>N.1).put hd 0 _⟩;rw[wu];have jT:¬ iY (λb=>V b∧b≠d) w w1 d:=λh=>by
  rcases h with h|h
  ·exact h.2 rfl
  ·have:=h.1;omega
 exact (kv.put jT 0 _).mono λb hb=>⟨by rcases hb with h|h;exact .inl h.1;exact .inr ⟨h.1,by simpa [World.setCell] using h.2⟩,λe=>by subst e;exact jT hb⟩
theorem sJ(w:X)(d:Nat)(l:aT)(k:Nat)(n:Int)(hn:-9223372036854775808<=n∧n<=9223372036854775807):ii W 180 #[d,J n] (λe=>e=b5 (aY (sI l n))) (g9 120 d l k) (g9 120 d (R8 l n) (kb l k n)) w:=by
 unfold R8 kb;cases E:sI l n with
 | false=>exact VE w d l k n hn E
 | true=>
   obtain⟨m,rfl,hm⟩:=VD E;exact IJ w d l k m hm
theorem xc(w:X)(d:Nat)(l:aT)(k:Nat)(A:aU)(n c:Nat)(b:aT)(hb:Bytes w (w:Nat) A n b):ii W 300 #[d,Z A n c] (λe=>e=b5 (J (Bv l b))) (g9 120 d l k) (g9 120 d (R7 l b) k) w:=by
 unfold Bv R7;cases E:fits l b with
 | false=>exact Km w d l k A n c b hb E
 | true=>exact FW w d l k A n c b hb E
def vU(w:X)(d:Nat)(l:aT)(k:Nat)(V:aV)(hD:g9 120 d l k w V):dz W 107 #[d] w λe O=>∃v,e=b5 v∧Own O (New w O) 5 1 v l.length (kz l)∧Grow w O:=by obtain⟨hd,N,hl,v,hB,hO⟩:=hD;obtain⟨A1,c1,rfl,T,iS,hm⟩:=hO.reads;have c0:=hB.cell 0;go_in;go_wp2_with (go_at_call 135;refine (jD _ A1 l.length c1 l T ap).mono ?_;rintro e w1 ⟨v1,rfl,kv,eD⟩);go_ret;exact⟨v1,rfl,kv,eD⟩
def oS(w:X):dz W 16 #[] w λe O=>e=b5 ((((w:Nat),0):K))∧g9 120 (w:Nat) [] 0 O (New w O)∧Grow w O:=by go_in;go_wp2;go_ret;exact⟨rfl,⟨⟨bh _,by simp⟩,bh _,by simp,_,eJ.made w _ _,Own.nil⟩,(Below.refl (w:Nat) w).alloc (bh _) _⟩
end Go.Proofs.YtpeepcmdehhbgaaGreatDoor.V
namespace Go.Proofs.YtpeepcmdehhbgaaGreatDoor.abo
open RowKit Hop
structure iE where
 seq:Int
 A:Option dA
 m:Nat
 c:Nat
 ds:List Dl
def iE.cells(b:iE):List K:=[J b.seq,Z b.A b.m b.c]
def iE.abs(b:iE):Int×List Dl:=(b.seq,b.ds)
def nz(b:iE):b.cells.length=2:=rfl
def Bz(b:iE):∀u∈b.cells,u.oneCell'=true:=by intro u hu;simp only[iE.cells,cI,cF,or_false] at hu;rcases hu with rfl|rfl<;>rfl
def MX(q:List iE):∀u∈q.flatMap iE.cells,u.oneCell'=true:=by intro u hu;obtain⟨b,_,hb⟩:=List.mem_flatMap.1 hu;exact Bz b u hb
def MY(q:List iE):(q.flatMap iE.cells).length=q.length*2:=ix iE.cells 2 nz q
structure iQ(w:X)(V:Nat->Prop)(b:iE):Prop where
 ds:jM w V b.A b.m b.ds
 le:b.m<=b.c
 max:b.c<=dG
 small:b.m<=8
theorem iQ.mono{w:X}{V V':aV}{b:iE}(h:iQ w V b)(hV:∀b,V b->V' b):iQ w V' b:=⟨In.mono h.ds hV,h.le,h.max,h.small⟩
theorem iQ.grow{w O:X}{V:aV}{b:iE}(h:iQ w V b)(H:Grow w O):iQ O V b:=⟨In.grow h.ds H,h.le,h.max,h.small⟩
theorem iQ.just{w O:X}{V U:aV}{b:iE}(h:iQ w V b)(hj:dM U w O)(hd:∀b,V b->¬ U b):iQ O V b:=⟨In.just h.ds hj hd,h.le,h.max,h.small⟩
def FX:(Tryz.prog.info? 196).map (λi=>(i.zero,i.size,i.bytes))=some (some (aZ #[(),ay]),2,32):=by kernel_rfl
def xd:Elem W 193 196 2 32 (aZ #[(),ay]):=⟨Tryz.underlying193,info_parts FX,rfl,by decide,by decide⟩
def qH(w:X)(V:aV)(b:iE)(h:iQ w V b):dz W 230 #[aZ #[J b.seq,Z b.A b.m b.c]] w λe O=>∃A',e=b5 (aZ #[J b.seq,Z A' b.m b.m])∧iQ O (New w O) ⟨b.seq,A',b.m,b.m,b.ds⟩∧Grow w O:=by
 obtain⟨sq,A,m,c,ds⟩:=b;obtain⟨hd,mn,Bb,sB⟩:=h;dsimp only at hd mn Bb sB ⊢;have gl:Grow w ((w.alloc (.cells #[J sq,Z A m c] 196)).alloc (.cells #[(),ay] 196)):=((Below.refl _ _).alloc (bh _) _).alloc (by simp) _;have uW:=(eJ.made w 196 #[J sq,Z A m c]).alloc (.cells #[(),ay] 196);have ky:=eJ.made (w.alloc (.cells #[J sq,Z A m c] 196)) 196 #[(),ay];obtain⟨x,HX⟩:=az ((w:Nat):Nat);have rI:(w.alloc (.cells #[J sq,Z A m c] 196)).heap.size=x+1:=by rw[HX.out];simp
 rw[rI] at ky;rw[<-HX.out] at uW;obtain⟨wa,HA⟩:=az ((w.alloc (.cells #[J sq,Z A m c] 196)).alloc (.cells #[(),ay] 196):X);rw[<-HA.out] at uW ky gl;have iZ:(wa:Nat)=x+2:=by rw[HA.out,HX.out];simp
 go_in;go_wp2_with fail;rw[<-HA.out,<-HX.out];refine (jD wa V A m c ds (In.grow hd gl) ap).mono ?_;rintro e w1 ⟨A1,c1',rfl,F6,oK,ry,eD⟩;have JZ:=uW.grow eD;have R9:=ky.grow eD;have ja:∀u,(w1.setCell (x,1) u).cell? (x,0)=some (J sq):=λu=>(JZ.put 1 u).cell 0;have iP:∀u,(w1.setCell (x,1) u).cell? (x,1)=some u:=λu=>(JZ.put 1 u).cell 1;have f1:=JZ.frozen 1;have c10:=JZ.cell 1;have hD:=(R9.far (p:=⟨x,1,none⟩) (show x+1≠x by omega) (Z A1 m m));have d0:=hD.cell 0;have d1:=hD.cell 1;have g0:=hD.frozen 0;have g1:=hD.frozen 1;go_wp2_with (go_at_call 133;refine (od _ A1 m c1' oK).mono ?_;rintro e w2 ⟨rfl,rfl⟩);have hE:=(hD.put 0 (J sq)).put 1 (Z A1 m m);have e0:=hE.cell 0;have e1:=hE.cell 1;have hj:dM (λb=>b=x∨b=x+1) w1 (((w1.setCell (x,1) (Z A1 m m)).setCell (x+1,0) (J sq)).setCell (x+1,1) (Z A1 m m)):=(((dM.dK (Grow.refl w1)).put (V:=λb=>b=x∨b=x+1) (.inl rfl) 1 _).put (.inr rfl) 0 _).put (.inr rfl) 1 _
 have jU:Grow w (((w1.setCell (x,1) (Z A1 m m)).setCell (x+1,0) (J sq)).setCell (x+1,1) (Z A1 m m)):=Below.trans (gl.trans eD) (hj.below (B:=(w:Nat)) (λb hb=>by have:=HX.out;omega) (gl.trans eD).size)
 refine bodyPost_ret (v := aZ #[J sq,Z A1 m m]) (by simp[results,Tryz.results230,go_sem,e0,e1]) rfl ⟨A1,rfl,⟨?_,bh _,by dsimp only;omega,sB⟩,jU⟩;refine In.mono (V:=New wa w1) (In.just F6 hj λb hb=>by have:=hb.1;omega) λb hb=>⟨by have:=hb.1;have:=gl.size;omega,by have:=hb.2;simpa [World.setCell] using this⟩
def Kn(w:X)(A:aU)(n c:Nat)(hn:n<=c):dz W 231 #[Z A n c] w λe O=>e=b5 (Z A n n)∧w=O:=by go_in;go_wp2;go_ret;exact⟨rfl,rfl⟩
structure lW(w:X)(V D:Nat->Prop)(A:Option dA)(n:Nat)(q:List iE):Prop where
 row:In w V 2 A n (q.flatMap iE.cells)
 all:∀b∈q,iQ w D b
def lW.len{q:List iE}(h:lW w V D A n q):q.length=n:=by have:=h.row.1;rw[MY] at this;omega
theorem lW.grow{w O:X}{V D:aV}{A:aU}{n:Nat}{q:List iE}(h:lW w V D A n q)(H:Grow w O):lW O V D A n q:=⟨h.row.grow H,λb hb=>(h.all b hb).grow H⟩
theorem lW.mono{w:X}{V D V' D':aV}{A:aU}{n:Nat}{q:List iE}(h:lW w V D A n q)(hV:∀b,V b->V' b)(hD:∀b,D b->D' b):lW w V' D' A n q:=⟨h.row.mono hV,λb hb=>(h.all b hb).mono hD⟩
theorem lW.just{w O:X}{V D U:aV}{A:aU}{n:Nat}{q:List iE}(h:lW w V D A n q)(hj:dM U w O)(hV:∀b,V b->¬ U b)(hD:∀b,D b->¬ U b):lW O V D A n q:=⟨h.row.just hj hV,λb hb=>(h.all b hb).just hj hD⟩
theorem lW.nil{w:X}{V D:aV}{A:aU}:lW w V D A 0 []:=⟨In.nil,by simp⟩
theorem lW.take{w:X}{V D:aV}{A:aU}{n k:Nat}{q:List iE}(h:lW w V D A n q)(N:k<=n):lW w V D A k (q.take k):=by refine⟨?_,λb hb=>h.all b (bW hb)⟩;have:=h.row.take N;rwa [ki iE.cells 2 nz q k] at this
def D8(w:X)(V D:aV)(A:aU)(n c:Nat)(q:List iE)(h:lW w V D A n q)(hn:n<=1024)(iS:n<=c):dz W 172 #[Z A n c] w λe O=>∃A' q',e=b5 (Z A' n n)∧lW O (New w O) (New w O) A' n q'∧q'.map iE.abs=q.map iE.abs∧Grow w O:=by
 have ig:=h.len;go_in;go_wp2_with fail;go_loopw [3,8] (λs i wr=>∃(k:Nat)(q':List iE)(R D':aV),k<=n∧i=J k∧Own wr R 196 2 s k (q'.flatMap iE.cells)∧(∀b∈q',iQ wr D' b)∧q'.map iE.abs=(q.take k).map iE.abs∧(∀b,R b->New w wr b∧¬ D' b)∧(∀b,D' b->New w wr b)∧Grow w wr) (λ_ i _=>n-(intOf i).toNat);case atStart=>exact⟨0,[],λ_=>False,λ_=>False,by omega,rfl,Own.nil,by simp,by simp,λ_ h=>h.elim,λ_ h=>h.elim,Grow.refl _⟩
 case round=>
  obtain⟨k,q',R,D',oL,rfl,hO,kT,F7,T,hD,H⟩:=hrel;obtain⟨A1,c1,rfl,Ma,MZ,ry⟩:=hO.jL;by_cases N:k<n
  ·obtain⟨ad,vo,rfl,hV,hB,e0,e1⟩:=(h.row.grow H).mr ap nz N
   have jE:=(h.all q[k] (bF vo)).grow H;have vq:q.take (k+1)=q.take k++[q[k]]:=br vo;have e0:=e0 _ rfl;have e1:=e1 0 _ rfl;have HS:=Q vq;clear vq;generalize q[k]=b at jE e0 e1 HS;obtain⟨sq,Ab,mb,cb,ds⟩:=b;dsimp only[iE.cells] at e0 e1;have fu:Grow wr (wr.alloc (.cells #[J sq,Z Ab mb cb] 196)):=(Below.refl (wr:Nat) wr).alloc (bh _) _;go_wp2_with fail;refine (qH _ D ⟨sq,Ab,mb,cb,ds⟩ (jE.grow fu)).mono ?_;rintro e w1 ⟨A2,rfl,lA,eD⟩;have QI:=eD.size;simp only[fp] at QI;have pG:=(Below.refl (w1:Nat) w1).alloc (bh _) (.cells #[J sq,Z A2 mb mb] 196);go_wp2_with (at_builtin;refine stay ?_);refine dI ?_;have Fw:=H.size;have l6:∀b,R b->b<(wr:Nat):=λb hb=>(T b hb).1.2;refine fO (V:=R) xd _ rfl (.tmp 12) (.tmp 15) rfl (Z A1 k c1) k (q'.flatMap iE.cells) rfl (((hO.grow l6 (fu.trans eD)).grow (λb hb=>by have:=l6 b hb;omega) pG)) ((w1:Nat)+1) (some ⟨(w1:Nat),0,none⟩) 1 1 (iE.cells ⟨sq,A2,mb,mb,ds⟩) rfl (fF w1 _ 196 _ rfl _ rfl) (Bz _) ap ?_;intro v2 w2 sw k7;have z6:=k7.size;simp only[fp] at z6;have hgj:Below (w:Nat) w1 w2:=Below.trans (pG.mono ap) (k7.below (B:=(w:Nat)) (λb hb=>(T b hb).1.1) (by simp;omega));have fk:Grow w w2:=Below.trans (H.trans (fu.trans eD)) hgj;have hD2:∀b:iE,iQ w1 D' b->iQ w2 D' b:=λb hb=>(hb.grow pG).just k7 λx Y hr=>(T x hr).2 Y;have M_:∀b:iE,iQ w1 (New (wr.alloc (.cells #[J sq,Z Ab mb cb] 196)) w1) b->iQ w2 (New (wr.alloc (.cells #[J sq,Z Ab mb cb] 196)) w1) b:=λb hb=>(hb.grow pG).just k7 λx Y hr=>by have:=Y.1;have:=l6 x hr;simp at *;omega
   go_wp2_with fail;go_roundw;case rel=>
    refine⟨k+1,q'++[⟨sq,A2,mb,mb,ds⟩],iY R (w1.alloc (.cells #[J sq,Z A2 mb mb] 196)) w2,λb=>D' b∨New (wr.alloc (.cells #[J sq,Z Ab mb cb] 196)) w1 b,by omega,by go_num,?_,λb hb=>?_,?_,λb hb=>?_,λb hb=>?_,fk⟩;·rw[bL,bJ,cE,bm];exact sw
    ·rcases List.mem_append.1 hb with hb|hb
     ·exact (hD2 b ((kT b hb).grow (fu.trans eD))).mono λ_ => .inl
     ·rw[List.mem_singleton.1 hb];exact (M_ _ lA).mono λ_ => .inr
    ·rw[bI,F7,HS.out,bI];rfl
    ·rcases hb with hb|⟨I,G⟩
     ·refine⟨⟨(T b hb).1.1,by have:=l6 b hb;omega⟩,λhd=>?_⟩
      rcases hd with hd|hd
      ·exact (T b hb).2 hd
      ·have:=hd.1;have:=l6 b hb;simp at *;omega
     ·simp only[fp] at I
      refine⟨⟨by omega,G⟩,λhd=>?_⟩;rcases hd with hd|hd
      ·have:=(hD b hd).2;omega
      ·have:=hd.2;omega
    ·rcases hb with hb|hb
     ·have:=hD b hb;exact⟨this.1,by have:=this.2;omega⟩
     ·have I:=hb.1;have G:=hb.2;simp only[fp] at I;exact⟨by omega,by omega⟩
   case measure=>simp[intOf];omega
  ·obtain rfl:k=n:=by omega
   go_wp2_with (go_at_call 231;refine (Kn _ A1 k c1 MZ).mono ?_;rintro e w2 ⟨rfl,rfl⟩);go_ret;refine⟨A1,q',rfl,⟨Ma.mono λb hb=>(T b hb).1,λb hb=>(kT b hb).mono hD⟩,?_,H⟩;rw[F7,bH ap]
end Go.Proofs.YtpeepcmdehhbgaaGreatDoor.abo
namespace Go.Hop
open RowKit
def St.step{a b a2:List Bl}(h:St V w0 (a++b) w)(ha2:pF a2)(kY:∀U1:aV,dN (px a) w U1->(∀x,U1 x->x<(w:Nat))->dN (px a2) O (iY U1 w O)∧dM U1 w O):St V w0 (a2++b) O:=by
 obtain⟨⟨h0,V1,hM,hV⟩,hj,ho,fS⟩:=h;rw[kE] at hM;obtain⟨U1,U2,hA,hB,k1,k2,k3⟩:=dN.app _ hM;obtain⟨XZ,lR⟩:=kY U1 hA λx Y=>(hV x (k1 x Y)).2;refine⟨⟨λx Y=>h0 x (bB lR.size Y),iY V1 w O,?_,λx Y=>?_⟩,hj.trans (lR.imp λx Y=>(hV x (k1 x Y)).1),lz ha2 (jC ho),fS⟩
 ·rw[kE]
  refine dN.flat _ ⟨iY U1 w O,U2,XZ,dN.framed _ (fP (jC ho)) w O U2 hB λx Y=>lR.block x (hV x (k2 x Y)).2 λI=>k3 x I Y,λx Y=>?_,λx Y => .inl (k2 x Y),λx Y G=>?_⟩
  ·rcases Y with Y|Y
   ·exact .inl (k1 x Y)
   ·exact .inr Y
  ·rcases Y with Y|Y
   ·exact k3 x Y G
   ·have:=(hV x (k2 x G)).2;have:=Y.1;omega
 ·rcases Y with Y|Y
  ·exact⟨(hV x Y).1,bw (hV x Y).2 lR.size⟩
  ·exact⟨h0 x Y.1,Y.2⟩
section
variable{f:FuncId}{args:aP}{ι:Type}{x:Bl}{C:ι->Ending->Prop}{l a b:List Bl}{a':ι->List Bl}{p:Nat}{t:dC}{cs:aP}{S:dW}{S':ι->dW}
def Lw.turns{C:Ending->Prop}{S':dW}(h:ii P f args C S S' w):Lw P D f args [.o S] (λ(_:Unit)e=>C e) (λ_=>[.o S']) w:=λV hM hV=>by obtain⟨U,_,hS,_,k1,_⟩:=hM;exact (h U hS λb hb=>(hV b (k1 b hb)).1).mono λe O ⟨hC,yP,hj⟩=>⟨(),hC,dN.wide [S'] O _ _ (λb hb=>hb.imp (k1 b) id) ⟨_,λ_=>False,yP,trivial,λ_ h=>h,λ_ h=>h.elim,λ_ _ h=>h⟩,hj.imp k1⟩
def xe(h:dN (px l) w U)(i:Nat)(hi:l[i]?=some (.c p t cs)):U p∧eJ w p t cs:=by obtain⟨U',hU,hs⟩:=(dN.pick _ i _ (iD hi) h).fst;exact⟨hs p hU.1,hU.2⟩
def nV(h:dN (px l) w U)(i:Nat)(hi:l[i]?=some (.o S)):∃U':aV,S w U'∧∀b,U' b->U b:=(dN.pick _ i _ (iD hi) h).fst
def St.py(h:St V w0 (a++b) w)(TS:∀i,pF (a' i))(hD:∀y,D y->y<(w:Nat)->¬ nU V w0 y)(E:∀U:aV,dN (px b) w U->(∀y,U y->y<(w:Nat))->Lw P (λy=>U y∨D y) f args a C a' w):dz P f args w λe O=>∃i,C i e∧St V w0 (a' i++b) O:=by
 obtain⟨⟨h0,V1,hM,hV⟩,hj,ho,fS⟩:=h;rw[kE] at hM;obtain⟨U1,U2,hA,hB,k1,k2,k3⟩:=dN.app _ hM;refine (E U2 hB (λy hy=>(hV y (k2 y hy)).2) U1 hA λy hy=>⟨(hV y (k1 y hy)).2,λhd=>hd.elim (k3 y hy) λhd=>hD y hd (hV y (k1 y hy)).2 (hV y (k1 y hy)).1⟩).mono λe O ⟨i,hC,XZ,lR⟩=>⟨i,hC,⟨⟨λy hy=>h0 y (bB lR.size hy),iY V1 w O,?_,λy hy=>?_⟩,hj.trans (lR.imp λy hy=>(hV y (k1 y hy)).1),lz (TS i) (jC ho),fS⟩⟩
 ·rw[kE]
  refine dN.flat _ ⟨iY U1 w O,U2,XZ,dN.framed _ (fP (jC ho)) w O U2 hB λy hy=>lR.block y (hV y (k2 y hy)).2 λI=>k3 y I hy,λy hy=>hy.imp (k1 y) id,λy hy => .inl (k2 y hy),λy hy G=>?_⟩;rcases hy with hy|hy
  ·exact k3 y hy G
  ·have:=(hV y (k2 y G)).2;have:=hy.1;omega
 ·rcases hy with hy|hy
  ·exact⟨(hV y hy).1,bw (hV y hy).2 lR.size⟩
  ·exact⟨h0 y hy.1,hy.2⟩
def St.Fo(h:St V w0 l w)(i:Nat)(hi:l[i]?=some (.o S))(hF:∀k,eu (S' k))(hD:∀y,D y->y<(w:Nat)->¬ nU V w0 y)(E:∀U:aV,dN (px (l.eraseIdx i)) w U->(∀y,U y->y<(w:Nat))->Lw P (λy=>U y∨D y) f args [.o S] C (λk=>[.o (S' k)]) w):dz P f args w λe O=>∃k,C k e∧St V w0 (l.set i (.o (S' k))) O:=(St.py (a:=[.o S]) (a':=λk=>[.o (S' k)]) (b:=l.eraseIdx i) (h.front i hi) (λk=>⟨hF k,trivial⟩) hD E).mono λe O ⟨k,hC,hS⟩=>⟨k,hC,hS.perm (iG hi).symm⟩
def Ko{α:Type}(x:α)(l:List α)(k:Nat):(x::l).Perm (l.take k++x::l.drop k):=by have h:(l.take k++x::l.drop k).Perm (x::(l.take k++l.drop k)):=List.perm_middle;rw[dt] at h;exact h.symm
def St.back(h:St V w0 (x::l) w)(k:Nat):St V w0 (l.take k++x::l.drop k) w:=h.perm (Ko x l k)
def St.no(h:St V w0 l w):∀y,(λ_=>False) y->y<(w:Nat)->¬ nU V w0 y:=λ_ h=>h.elim
end
end Go.Hop
namespace Go.Proofs.YtpeepcmdehhbgaaGreatDoor
open RowKit Hop
def sK(x:Nat):Nat:=(x*6364136223846793005+1442695040888963407) % 18446744073709551616
def Yt(x n:Nat):Nat:=(sK x / 4294967296) % n
def og(n:Nat):Nat:=if n=0 then 4 else if n=1 then 8 else if n=2 then 16 else 32
def rD(x n:Nat):Nat:=og n+Yt x (og n / 2+1)
def uZ(n:Nat):og n=4∨og n=8∨og n=16∨og n=32:=by
 unfold og;repeat' split
 all_goals omega
def xf(x n:Nat):rD x n<=48:=by have h:=Nat.mod_lt (sK x / 4294967296) (show 0<og n / 2+1 by omega);have:=uZ n;unfold rD Yt;omega
def Ra(w:X)(x:Nat):dz W 378 #[ae ah x] w λe O=>e=b5 (ae ah (sK x:Int))∧w=O:=by
 have e:IntKind.u64.wrap (IntKind.u64.wrap ((x:Int)*6364136223846793005)+1442695040888963407)=(sK x:Int):=by simp only[IntKind.wrap_u64];unfold sK;omega
 go_in;go_wp2;go_ret;exact⟨rfl,rfl⟩
def Zl(w:X)(x n:Nat)(hn:1<=n∧n<=1024):dz W 363 #[ae ah x,J n] w λe O=>e=b5 (J (Yt x n:Int))∧w=O:=by
 have hN:=Ra w x;have hl:sK x<18446744073709551616:=by unfold sK;omega
 obtain⟨y,Hy⟩:=az (Yt x n);rw[<-Hy.out];obtain⟨z,Hz⟩:=az (sK x / 4294967296);obtain⟨u,Hu⟩:=az (sK x);rw[<-Hu.out] at hN hl;go_in;go_wp2_with fail;refine hN.mono ?_;rintro e w1 ⟨rfl,rfl⟩;go_wp2;go_ret;exact⟨by rw[Hy.out];unfold Yt;rw[<-Hu.out];simp,rfl⟩
def VF(w:X)(n:Nat)(hn:n<=4611686018427387904):dz W 362 #[J n,J 4,J 32] w λe O=>e=b5 (J (og n:Int))∧w=O:=by
 obtain⟨y,Hy⟩:=az (og n);rw[<-Hy.out];go_in;go_wp2_with fail;go_loopw [7,8] (λb k wr=>(∃j:Nat,k=J j∧j<=n∧((j=0∧b=J 4)∨(j=1∧b=J 8)∨(j=2∧b=J 16)∨(j=3∧b=J 32)))∧w=wr) (λ_ k _=>4-(intOf k).toNat);case atStart=>exact⟨⟨0,rfl,by omega,.inl ⟨rfl,rfl⟩⟩,rfl⟩
 case round=>
  obtain⟨⟨j,rfl,hj,hb⟩,rfl⟩:=hrel;by_cases Cw:n=j
  ·subst Cw
   have dj:decide (n<n)=false:=aD ap;have hy:y=og n:=Hy.out;rcases hb with ⟨I,rfl⟩|⟨I,rfl⟩|⟨I,rfl⟩|⟨I,rfl⟩
   ·have Qf:∀ts t w,(Builtin.min_ ts t #[J 4,J 32]).run W w=.ok (J 4) w:=λts t w=>by rw[run_min_int2];rfl
    rw[I] at hy;obtain rfl:y=4:=hy;go_wp2;go_ret;exact⟨rfl,rfl⟩
   ·have Qf:∀ts t w,(Builtin.min_ ts t #[J 8,J 32]).run W w=.ok (J 8) w:=λts t w=>by rw[run_min_int2];rfl
    rw[I] at hy;obtain rfl:y=8:=hy;go_wp2;go_ret;exact⟨rfl,rfl⟩
   ·have Qf:∀ts t w,(Builtin.min_ ts t #[J 16,J 32]).run W w=.ok (J 16) w:=λts t w=>by rw[run_min_int2];rfl
    rw[I] at hy;obtain rfl:y=16:=hy;go_wp2;go_ret;exact⟨rfl,rfl⟩
   ·have Qf:∀ts t w,(Builtin.min_ ts t #[J 32,J 32]).run W w=.ok (J 32) w:=λts t w=>by rw[run_min_int2];rfl
    rw[I] at hy;obtain rfl:y=32:=hy;go_wp2;go_ret;exact⟨rfl,rfl⟩
  ·have dj:decide (j<n)=true:=aC ap
   rcases hb with ⟨I,rfl⟩|⟨I,rfl⟩|⟨I,rfl⟩|⟨I,rfl⟩
   ·go_wp2_with fail
    exact⟨⟨⟨j+1,by go_num,by omega,.inr (.inl ⟨by omega,rfl⟩)⟩,trivial⟩,by simp[intOf];omega⟩
   ·go_wp2_with fail
    exact⟨⟨⟨j+1,by go_num,by omega,.inr (.inr (.inl ⟨by omega,rfl⟩))⟩,trivial⟩,by simp[intOf];omega⟩
   ·go_wp2_with fail
    exact⟨⟨⟨j+1,by go_num,by omega,.inr (.inr (.inr ⟨by omega,rfl⟩))⟩,trivial⟩,by simp[intOf];omega⟩
   ·have Qf:∀ts t w,(Builtin.min_ ts t #[J 32,J 32]).run W w=.ok (J 32) w:=λts t w=>by rw[run_min_int2];rfl
    have hy:y=32:=by rw[Hy.out];unfold og;rw[aB ap,aB ap,aB ap]
    subst hy;go_wp2;go_ret;exact⟨rfl,rfl⟩
def VG(w:X)(x n:Nat)(hn:n<=4611686018427387904):dz W 328 #[ae ah x,J n,J 4,J 32] w λe O=>e=b5 (J (rD x n:Int))∧w=O:=by
 have hB:=VF w n hn;have E:=uZ n;obtain⟨y,Hy⟩:=az (rD x n);have Qg:y<=48:=by rw[Hy.out];exact xf x n
 rw[<-Hy.out];obtain⟨b,Hb⟩:=az (og n);rw[<-Hb.out] at hB E;have hI:=Zl w x (b / 2+1) ap;obtain⟨z,Hz⟩:=az (Yt x (b / 2+1));rw[<-Hz.out] at hI;have hyz:y=b+z:=by rw[Hy.out,Hz.out,Hb.out];rfl
 replace hyz:=Q hyz;have YS:z<=48:=by rw[hyz.out] at Qg;omega
 clear Hy Hz;go_in;go_wp2_with fail;refine hB.mono ?_;rintro e w1 ⟨rfl,rfl⟩;rcases E with rfl|rfl|rfl|rfl
 all_goals
  go_wp2_with fail
  refine hI.mono ?_
  rintro e w1 ⟨rfl,rfl⟩
  go_wp2
  go_ret
  exact⟨by rw[hyz.out];simp,rfl⟩
end Go.Proofs.YtpeepcmdehhbgaaGreatDoor
namespace Go.Proofs.YtpeepcmdehhbgaaGreatDoor.Ne
open RowKit Hop
theorem info_parts{e size bytes:Nat}{z:K}(h:(Tryz.prog.info? e).map (λi=>(i.zero,i.size,i.bytes))=some (some z,size,bytes)):∃i,Tryz.prog.info? e=some i∧i.zero=some z∧i.size=size∧i.bytes=bytes:=by
 cases hi:Tryz.prog.info? e with
 | none=>rw[hi] at h;cases h
 | some i=>rw[hi] at h;injection h with h;injection h with I G;injection G with G L;exact⟨i,rfl,I,G,L⟩
def Br:(Tryz.prog.info? 5).map (λi=>(i.zero,i.size,i.bytes))=some (some (.int .u8 0),1,1):=by kernel_rfl
def Kj:Elem W 23 5 1 1 (.int .u8 0):=⟨d9,info_parts Br,rfl,by decide,by decide⟩
def Mj(w:X)(V:aV)(A:aU)(n:Nat)(l:aT):Prop:=In w V 1 A n (kz l)
def Mj.len(h:Mj w V A n l):l.length=n:=by have:=h.1;simpa using this
theorem jD(w:X)(V:aV)(A:aU)(n c:Nat)(l:aT)(h:Mj w V A n l)(hn:n<=1048576):dz W 135 #[Z A n c] w λe O=>∃A' c',e=b5 (Z A' n c')∧Mj O (New w O) A' n l∧n<=c'∧c'<=dG∧Grow w O:=by
 have kS:=λ(O:X)=>Lib.run_eql_slice_nil (P:=W) O 23 5 A n c 0 0 d9;cases A with
 | none=>
   have y_:n=0:=by
    rcases b_ n with h0|h0
    ·exact h0
    ·obtain⟨_,e,_⟩:=h.2 h0;cases e
   subst y_;obtain rfl:l=[]:=bu h.len;go_in;go_wp2;go_ret;exact⟨_,_,rfl,In.nil,bh _,bo _,Grow.refl _⟩
 | some ad=>
   go_in;go_wp2_with (at_builtin;refine stay ?_);refine dI ?_;refine fO (V:=λb=>b=(w:Nat)) Kj _ rfl (.tmp 5) (.tmp 6) rfl (Z (some ⟨(w:Nat),0,none⟩) 0 0) 0 [] rfl (lC w _ _) (w:Nat) (some ad) n c (kz l) rfl (Reads.alloc (In.reads h) (bh _) _) lx ap ?_;intro v1 w1 kv wo;simp only[cJ,ch] at kv;obtain⟨sw,eD⟩:=ny kv wo;obtain⟨A2,c2,rfl,hI,iS,hm⟩:=sw.jL;go_wp2;go_ret;exact⟨A2,c2,rfl,hI,iS,hm,eD⟩
abbrev Lb:=Int×Int×List UInt8
structure Lt where
 f:Int
 t:Int
 A:Option dA
 m:Nat
 c:Nat
 bs:List UInt8
def Lt.cells(b:Lt):List K:=[J b.f,J b.t,Z b.A b.m b.c]
def Lt.abs(b:Lt):Lb:=(b.f,b.t,b.bs)
def rS(b:Lt):b.cells.length=3:=rfl
def FY(b:Lt):∀u∈b.cells,u.oneCell'=true:=by intro u hu;simp only[Lt.cells,cI,cF,or_false] at hu;rcases hu with rfl|rfl|rfl<;>rfl
def IK(q:List Lt):∀u∈q.flatMap Lt.cells,u.oneCell'=true:=by intro u hu;obtain⟨b,_,hb⟩:=List.mem_flatMap.1 hu;exact FY b u hb
def Rb(q:List Lt):(q.flatMap Lt.cells).length=q.length*3:=ix Lt.cells 3 rS q
structure l7(w:X)(V:Nat->Prop)(b:Lt):Prop where
 bs:Mj w V b.A b.m b.bs
 le:b.m<=b.c
 max:b.c<=dG
 small:b.m<=1048576
theorem l7.mono{w:X}{V V':aV}{b:Lt}(h:l7 w V b)(hV:∀b,V b->V' b):l7 w V' b:=⟨In.mono h.bs hV,h.le,h.max,h.small⟩
theorem l7.keep{w O:X}{V:aV}{b:Lt}(h:l7 w V b)(N:∀b,V b->b<(w:Nat)->O.heap[b]?=w.heap[b]?):l7 O V b:=⟨In.keep h.bs N,h.le,h.max,h.small⟩
theorem l7.grow{w O:X}{V:aV}{b:Lt}(h:l7 w V b)(H:Grow w O):l7 O V b:=⟨In.grow h.bs H,h.le,h.max,h.small⟩
theorem l7.just{w O:X}{V U:aV}{b:Lt}(h:l7 w V b)(hj:dM U w O)(hd:∀b,V b->¬ U b):l7 O V b:=⟨In.just h.bs hj hd,h.le,h.max,h.small⟩
def D9:(Tryz.prog.info? 172).map (λi=>(i.zero,i.size,i.bytes))=some (some (aZ aL),3,40):=by kernel_rfl
def sL:Elem W 86 172 3 40 (aZ aL):=⟨Tryz.underlying86,info_parts D9,rfl,by decide,by decide⟩
def qH(w:X)(V:aV)(b:Lt)(h:l7 w V b):dz W 95 #[aZ #[J b.f,J b.t,Z b.A b.m b.c]] w λe O=>∃A' c',e=b5 (aZ #[J b.f,J b.t,Z A' b.m c'])∧l7 O (New w O) ⟨b.f,b.t,A',b.m,c',b.bs⟩∧Grow w O:=by
 obtain⟨f,t,A,m,c,bs⟩:=b;obtain⟨hd,mn,Bb,sB⟩:=h;dsimp only at hd mn Bb sB ⊢;have gl:Grow w ((w.alloc (.cells #[J f,J t,Z A m c] 172)).alloc (.cells aL 172)):=((Below.refl _ _).alloc (bh _) _).alloc (by simp) _;have uW:=(eJ.made w 172 #[J f,J t,Z A m c]).alloc (.cells aL 172);have ky:=eJ.made (w.alloc (.cells #[J f,J t,Z A m c] 172)) 172 aL;obtain⟨x,HX⟩:=az ((w:Nat):Nat);have rI:(w.alloc (.cells #[J f,J t,Z A m c] 172)).heap.size=x+1:=by rw[HX.out];simp
 rw[rI] at ky;rw[<-HX.out] at uW;obtain⟨wa,HA⟩:=az ((w.alloc (.cells #[J f,J t,Z A m c] 172)).alloc (.cells aL 172):X);rw[<-HA.out] at uW ky gl;have iZ:(wa:Nat)=x+2:=by rw[HA.out,HX.out];simp
 go_in;go_wp2_with fail;rw[<-HA.out,<-HX.out];refine (jD wa V A m c bs (In.grow hd gl) ap).mono ?_;rintro e w1 ⟨A1,c1',rfl,F6,oK,ry,eD⟩;have JZ:=uW.grow eD;have R9:=ky.grow eD;have ja:=(JZ.put 2 (Z A1 m c1')).cell 0;have iP:=(JZ.put 2 (Z A1 m c1')).cell 1;have ip:=(JZ.put 2 (Z A1 m c1')).cell 2;have f2:=JZ.frozen 2;have c12:=JZ.cell 2;have hD:=(R9.far (p:=⟨x,2,none⟩) (show x+1≠x by omega) (Z A1 m c1'));have d0:=hD.cell 0;have d1:=hD.cell 1;have d2:=hD.cell 2;have g0:=hD.frozen 0;have g1:=hD.frozen 1;have g2:=hD.frozen 2;go_wp2_with fail;have hE:=((hD.put 0 (J f)).put 1 (J t)).put 2 (Z A1 m c1');have e0:=hE.cell 0;have e1:=hE.cell 1;have e2:=hE.cell 2;have hj:dM (λb=>b=x∨b=x+1) w1 ((((w1.setCell (x,2) (Z A1 m c1')).setCell (x+1,0) (J f)).setCell (x+1,1) (J t)).setCell (x+1,2) (Z A1 m c1')):=((((dM.dK (Grow.refl w1)).put (V:=λb=>b=x∨b=x+1) (.inl rfl) 2 _).put (.inr rfl) 0 _).put (.inr rfl) 1 _).put (.inr rfl) 2 _
 have jU:Grow w ((((w1.setCell (x,2) (Z A1 m c1')).setCell (x+1,0) (J f)).setCell (x+1,1) (J t)).setCell (x+1,2) (Z A1 m c1')):=Below.trans (gl.trans eD) (hj.below (B:=(w:Nat)) (λb hb=>by have:=HX.out;omega) (gl.trans eD).size)
 refine bodyPost_ret (v := aZ #[J f,J t,Z A1 m c1']) (by simp[results,Tryz.results95,go_sem,e0,e1,e2]) rfl ⟨A1,c1',rfl,⟨?_,oK,ry,sB⟩,jU⟩;refine In.mono (V:=New wa w1) (In.just F6 hj λb hb=>by have:=hb.1;omega) λb hb=>⟨by have:=hb.1;have:=gl.size;omega,by have:=hb.2;simpa [World.setCell] using this⟩
def oT(nodes:Int)(v:K)(P:aO):Array K:=(Value.int .i64 nodes::v::(bV 64).map λi=>Value.bool (P i)).toArray
def N0(nodes:Int)(v:K)(P:aO){i:Nat}(hi:i<64):(oT nodes v P)[2+i]?=some (aY (P i)):=by unfold oT;rw[Nat.add_comm];simp[List.getElem?_range hi]
def zM(nodes:Int)(v v':K)(P:aO):(oT nodes v P).setIfInBounds 1 v'=oT nodes v' P:=by unfold oT;simp
def iy(nodes i:Int):Bool:=decide (0<=i)&&decide (i<nodes)
def oh(h:0<=i∧i<nodes):iy nodes i=true:=by unfold iy;rw[aC h.1,aC h.2];rfl
def Da(h:¬ (0<=i∧i<nodes)):iy nodes i=false:=by unfold iy;rw[Bool.and_eq_false_iff,decide_eq_false_iff_not,decide_eq_false_iff_not];omega
def Db(h:iy nodes i=true):0<=i∧i<nodes:=by unfold iy at h;rw[bU,decide_eq_true_eq,decide_eq_true_eq] at h;exact h
def Zm(nodes:Int)(a:Lb):Prop:=(0<=a.1∧a.1<nodes)∧(0<=a.2.1∧a.2.1<nodes)
def fc(g:Nat)(nodes:Int)(l:List Lb)(P:aO):dW:=λw V=>
 V g∧∃(v:K)(q:List Lt)(R D:aV),q.map Lt.abs=l∧q.length<=64∧(1<=nodes∧nodes<=8)∧(∀a∈l,Zm nodes a)∧eJ w g 170 (oT nodes v P)∧Row w R 172 3 v q.length (q.flatMap Lt.cells)∧(∀b∈q,l7 w D b)∧(∀b,R b->V b∧b≠g∧¬ D b)∧(∀b,D b->V b∧b≠g)
def fc.framed(g:Nat)(nodes:Int)(l:List Lb)(P:aO):eu (fc g nodes l P):=λw O V h N=>by obtain⟨I,v,q,R,D,G,L,hn,hi,h4,h5,h6,h7,h8⟩:=h;exact⟨I,v,q,R,D,G,L,hn,hi,(N g I).trans h4,h5.keep λb hb _=>N b (h7 b hb).1,λb hb=>(h6 b hb).keep λx Y _=>N x (h8 x Y).1,h7,h8⟩
def fc.wide{l:List Lb}{P:aO}(h:fc g nodes l P w V)(hV:∀b,V b->V' b):fc g nodes l P w V':=by obtain⟨I,v,q,R,D,G,L,hn,hi,h4,h5,h6,h7,h8⟩:=h;exact⟨hV g I,v,q,R,D,G,L,hn,hi,h4,h5,h6,λb hb=>⟨hV b (h7 b hb).1,(h7 b hb).2⟩,λb hb=>⟨hV b (h8 b hb).1,(h8 b hb).2⟩⟩
structure VH(w:X)(V D:Nat->Prop)(A:Option dA)(n:Nat)(q:List Lt):Prop where
 row:In w V 3 A n (q.flatMap Lt.cells)
 all:∀b∈q,l7 w D b
def VH.len{q:List Lt}(h:VH w V D A n q):q.length=n:=by have:=h.row.1;rw[Rb] at this;omega
theorem VH.grow{w O:X}{V D:aV}{A:aU}{n:Nat}{q:List Lt}(h:VH w V D A n q)(H:Grow w O):VH O V D A n q:=⟨h.row.grow H,λb hb=>(h.all b hb).grow H⟩
def fc.lts{l:List Lb}{P:aO}(h:fc g nodes l P w V):∃A c q,Hid (q.map Lt.abs=l)∧Hid (l.length=q.length)∧q.length<=64∧(1<=nodes∧nodes<=8)∧(∀a∈l,Zm nodes a)∧eJ w g 170 (oT nodes (Z A q.length c) P)∧VH w V V A q.length q∧q.length<=c∧c<=dG:=by obtain⟨I,v,q,R,D,rfl,L,hn,hi,h4,h5,h6,h7,h8⟩:=h;obtain⟨A,c,rfl,hI,iS,hm⟩:=h5.jL;exact⟨A,c,q,Q rfl,Q (bj ..),L,hn,hi,h4,⟨hI.mono λb hb=>(h7 b hb).1,λb hb=>(h6 b hb).mono λx Y=>(h8 x Y).1⟩,iS,hm⟩
def sM(w:X)(g:Nat)(nodes i:Int)(v:K)(P:aO)(hB:eJ w g 170 (oT nodes v P)):dz W 274 #[g,J i] w λe O=>e=b5 (aY (iy nodes i))∧w=O:=by
 have c0:w.cell? (g,0)=some (J nodes):=hB.cell 0;unfold iy;by_cases h:0<=i
 ·go_in
  go_wp2;go_ret;exact⟨kC (by rw[aC h];simp),rfl⟩
 ·go_in
  go_wp2;go_ret;exact⟨kC (by rw[aD (p:=0<=i) ap];rfl),rfl⟩
def qI(w:X)(g:Nat)(nodes i:Int)(A:aU)(n c:Nat)(P:aO)(hB:eJ w g 170 (oT nodes (Z A n c) P)):dz W 211 #[g,J i] w λe O=>e=b5 (aY (iy (n:Int) i))∧w=O:=by
 have c1:w.cell? (g,1)=some (Z A n c):=hB.cell 1;unfold iy;by_cases h:0<=i
 ·go_in
  go_wp2;go_ret;exact⟨kC (by rw[aC h];simp),rfl⟩
 ·go_in
  go_wp2;go_ret;exact⟨kC (by rw[aD (p:=0<=i) ap];rfl),rfl⟩
def N1:(Tryz.prog.info? 170).map (λi=>(i.zero,i.size,i.bytes))=some (some (aZ (oT 0 (Z none 0 0) (λ_=>false))),66,96):=by kernel_rfl
def N2(w:X):(zeroValue 170).run W w=.ok (aZ (oT 0 (Z none 0 0) (λ_=>false))) w:=by obtain⟨i,hi,hz,_,_⟩:=info_parts N1;simp[zeroValue,typeInfo,hi,hz]
def Kp(nodes nodes':Int)(v:K)(P:aO):(oT nodes v P).setIfInBounds 0 (J nodes')=oT nodes' v P:=by unfold oT;simp
def Re(nodes:Int)(v:K)(P:aO):¬ oT nodes v P=#[]:=λh=>by have:=congrArg (λa:Array K=>a[0]?) h;simp[oT] at this
def oS(w:X)(nodes:Int)(I:1<=nodes)(h8:nodes<=8):dz W 143 #[J nodes] w λe O=>e=b5 ((((w:Nat),0):K))∧fc (w:Nat) nodes [] (λ_=>false) O (New w O)∧Grow w O:=by
 have ha:¬ nodes<1:=by omega
 have hb:¬ 8<nodes:=by omega
 have hz:=N2;have E:=Kp 0 nodes (Z none 0 0) (λ_=>false);have jT:=Re 0 (Z none 0 0) (λ_=>false);generalize oT 0 (Z none 0 0) (λ_=>false)=np at hz E jT;go_in;go_wp2;go_ret;exact⟨rfl,⟨⟨bh _,by simp⟩,_,[],λ_=>False,λ_=>False,rfl,by simp,⟨I,h8⟩,by simp,eJ.made w _ _,Row.nil,by simp,λ_ h=>h.elim,λ_ h=>h.elim⟩,(Below.refl (w:Nat) w).alloc (bh _) _⟩
def Zn(l:List Lb)(w0:X)(u:K)(w:X):Prop:=∃(A:aU)(n c:Nat)(q:List Lt),u=Z A n c∧VH w (New w0 w) (New w0 w) A n q∧q.map Lt.abs=l∧n<=c∧c<=dG
def vU(w:X)(g:Nat)(nodes:Int)(l:List Lb)(P:aO)(V:aV)(hQ:fc g nodes l P w V):dz W 38 #[g] w λe O=>∃u,e=b5 u∧Zn l w u O∧Grow w O:=by
 obtain⟨A,c,q,HQ,HL,M9,hN,qD,hB,hI,iS,iO⟩:=hQ.lts;have cc1:w.cell? (g,1)=some (Z A q.length c):=hB.cell 1;go_in;go_wp2_with fail;go_loopw [3,11] (λs i wr=>∃(k:Nat)(q':List Lt)(R D':aV),k<=q.length∧i=J k∧Own wr R 172 3 s k (q'.flatMap Lt.cells)∧(∀b∈q',l7 wr D' b)∧q'.map Lt.abs=(q.take k).map Lt.abs∧(∀b,R b->New w wr b∧¬ D' b)∧(∀b,D' b->New w wr b)∧Grow w wr) (λ_ i _=>q.length-(intOf i).toNat);case atStart=>exact⟨0,[],λ_=>False,λ_=>False,by omega,rfl,Own.nil,by simp,by simp,λ_ h=>h.elim,λ_ h=>h.elim,Grow.refl _⟩
 case round=>
  obtain⟨k,q',R,D',oL,rfl,hO,kT,F7,T,hD,H⟩:=hrel;obtain⟨A1,c1,rfl,Ma,MZ,ry⟩:=hO.jL;by_cases N:k<q.length
  ·obtain⟨ad,vo,rfl,hV,hB,e0,e1⟩:=(hI.row.grow H).mr ap rS N
   have jE:=(hI.all q[k] (bF vo)).grow H;have vq:q.take (k+1)=q.take k++[q[k]]:=br vo;have e0:=e0 _ rfl;have e2:=e1 1 _ rfl;have e1:=e1 0 _ rfl;have HS:=Q vq;clear vq;generalize q[k]=b at jE e0 e1 e2 HS;obtain⟨f,t,Ab,mb,cb,bs⟩:=b;dsimp only[Lt.cells] at e0 e1 e2;have fu:Grow wr (wr.alloc (.cells #[J f,J t,Z Ab mb cb] 172)):=(Below.refl (wr:Nat) wr).alloc (bh _) _;go_wp2_with fail;refine (qH _ V ⟨f,t,Ab,mb,cb,bs⟩ (jE.grow fu)).mono ?_;rintro e w1 ⟨A2,c2,rfl,lA,eD⟩;have QI:=eD.size;simp only[fp] at QI;have pG:=(Below.refl (w1:Nat) w1).alloc (bh _) (.cells #[J f,J t,Z A2 mb c2] 172);go_wp2_with (at_builtin;refine stay ?_);refine dI ?_;have Fw:=H.size;have l6:∀b,R b->b<(wr:Nat):=λb hb=>(T b hb).1.2;refine fO (V:=R) sL _ rfl (.tmp 15) (.tmp 18) rfl (Z A1 k c1) k (q'.flatMap Lt.cells) rfl (((hO.grow l6 (fu.trans eD)).grow (λb hb=>by have:=l6 b hb;omega) pG)) ((w1:Nat)+1) (some ⟨(w1:Nat),0,none⟩) 1 1 (Lt.cells ⟨f,t,A2,mb,c2,bs⟩) rfl (fF w1 _ 172 _ rfl _ rfl) (FY _) ap ?_;intro v2 w2 sw k7;have z6:=k7.size;simp only[fp] at z6;have hgj:Below (w:Nat) w1 w2:=Below.trans (pG.mono ap) (k7.below (B:=(w:Nat)) (λb hb=>(T b hb).1.1) (by simp;omega));have fk:Grow w w2:=Below.trans (H.trans (fu.trans eD)) hgj;have hD2:∀b:Lt,l7 w1 D' b->l7 w2 D' b:=λb hb=>(hb.grow pG).just k7 λx Y hr=>(T x hr).2 Y;have M_:∀b:Lt,l7 w1 (New (wr.alloc (.cells #[J f,J t,Z Ab mb cb] 172)) w1) b->l7 w2 (New (wr.alloc (.cells #[J f,J t,Z Ab mb cb] 172)) w1) b:=λb hb=>(hb.grow pG).just k7 λx Y hr=>by have:=Y.1;have:=l6 x hr;simp at *;omega
   go_wp2_with fail;go_roundw;case rel=>
    refine⟨k+1,q'++[⟨f,t,A2,mb,c2,bs⟩],iY R (w1.alloc (.cells #[J f,J t,Z A2 mb c2] 172)) w2,λb=>D' b∨New (wr.alloc (.cells #[J f,J t,Z Ab mb cb] 172)) w1 b,by omega,by go_num,?_,λb hb=>?_,?_,λb hb=>?_,λb hb=>?_,fk⟩;·rw[bL,bJ,cE,bm];exact sw
    ·rcases List.mem_append.1 hb with hb|hb
     ·exact (hD2 b ((kT b hb).grow (fu.trans eD))).mono λ_ => .inl
     ·rw[List.mem_singleton.1 hb];exact (M_ _ lA).mono λ_ => .inr
    ·rw[bI,F7,HS.out,bI];rfl
    ·rcases hb with hb|⟨I,G⟩
     ·refine⟨⟨(T b hb).1.1,by have:=l6 b hb;omega⟩,λhd=>?_⟩
      rcases hd with hd|hd
      ·exact (T b hb).2 hd
      ·have:=hd.1;have:=l6 b hb;simp at *;omega
     ·simp only[fp] at I
      refine⟨⟨by omega,G⟩,λhd=>?_⟩;rcases hd with hd|hd
      ·have:=(hD b hd).2;omega
      ·have:=hd.2;omega
    ·rcases hb with hb|hb
     ·have:=hD b hb;exact⟨this.1,by have:=this.2;omega⟩
     ·have I:=hb.1;have G:=hb.2;simp only[fp] at I;exact⟨by omega,by omega⟩
   case measure=>simp[intOf];omega
  ·obtain rfl:k=q.length:=by omega
   go_wp2;go_ret;refine⟨_,rfl,⟨A1,q.length,c1,q',rfl,⟨Ma.mono λb hb=>(T b hb).1,λb hb=>(kT b hb).mono hD⟩,?_,MZ,ry⟩,H⟩;rw[F7,bH ap,HQ.out]
end Go.Proofs.YtpeepcmdehhbgaaGreatDoor.Ne
namespace Go.Hop
open RowKit
section
variable{ops:Array dE}{abo:Exit->dF->X->Prop}{S:X->Prop}{a:dF}{abn:Array Bool}
def gi(S:X->Prop)(n:Nat)(hn:ops.size-k=n)(h:wpAnyH P .any ops abo S n (tZ ops.size k) a w):Yq P ops abo k a w:=by unfold Yq;rw[hn];exact wpAny_of_held _ _ _ _ h
def Rf{i:Nat}{o:dE}{v:K}{a':dF}(hi:ops[i]?=some o)(hs:cZ ops=true)(hf:Region.free .any ops abn i=true)(hr:(cC .any ops abn).contains i=true)
 (hQ:∀c a w,abo (.panic c) (a.put o.dst v) w->abo (.panic c) a w) (hw:bN o (yielded ops a.tmps)=true) (F8:S w) (hy:∀w,S w->∀(R:K->dF->Prop),R v a'->ze R a o w ((execOp a.eval o).run P w)) (h:wpAnyH P .any ops abo S n (abn.setIfInBounds i true) a' w):wpAnyH P .any ops abo S (n+1) abn a w:=by
 have key:∀w1,S w1->(execOp a.eval o).run P w1=.ok (.value v) w1∧a.put o.dst v=a':=λw1 ej=>by
  have I:=hy w1 ej (λu b=>u=v∧b=a') ⟨rfl,rfl⟩;cases hr:(execOp a.eval o).run P w1 with
  | ok n O=>
    rw[hr] at I;cases n with
    | value u=>
      obtain⟨rfl,rfl,G⟩:=I;exact⟨rfl,G⟩
    | _=>exact I.elim
  | halt _ _=>rw[hr] at I;exact I.elim
 exact wpAnyH_take hi hs hf hr hQ (.inl ⟨hw,λw1 I=>(key w1 I).1⟩) F8 (by rw[(key w F8).2];exact h)
def held(i:Nat){v:Value}(hi:ops[i]?=some o)(F8:S w)(hy:∀w,S w->∀(R:Value->Act->Prop),R v a'->ze R a o w ((execOp a.eval o).run P w))(h:wpAnyH P .any ops abo S n (abn.setIfInBounds i true) a' w)
 (hs:Region.noSelect ops=true:=by kernel_rfl) (hf:Region.free .any ops abn i=true:=by kernel_rfl) (hr:(Region.ready .any ops abn).contains i=true:=by kernel_rfl)
 (hQ:∀c a w,abo (.panic c) (a.put o.dst v) w->abo (.panic c) a w:=by exact λ_ _ _ h=>h) (hw:Region.wanted o (yielded ops a.tmps)=true:=by kernel_rfl):wpAnyH P .any ops abo S (n+1) abn a w:=Rf hi hs hf hr hQ hw F8 hy h
def dQ(i:Nat)(hi:ops[i]?=some o)(F8:S w)(h:wpAnyH P .any ops abo S n (abn.setIfInBounds i true) a' w)
 (hs:Region.noSelect ops=true:=by kernel_rfl) (hf:Region.free .any ops abn i=true:=by kernel_rfl) (hr:(Region.ready .any ops abn).contains i=true:=by kernel_rfl)
 (hQ:∀c a w,abo (.panic c) (a.put o.dst undef) w->abo (.panic c) a w:=by exact λ_ _ _ h=>h) (hw:Region.wanted o (yielded ops a.tmps)=false:=by kernel_rfl) (hn:∀R:Act->Prop,R a'->R (a.put o.dst undef):=by intro R T;go_simp;exact T):wpAnyH P .any ops abo S (n+1) abn a w:=
 wpAnyH_take hi hs hf hr hQ (.inr ⟨hw,rfl⟩) F8 (hn (λb=>wpAnyH P .any ops abo S n (abn.setIfInBounds i true) b w) h)
def dY(i:Nat)(hi:ops[i]?=some o)(h:wpList P ops (Exit.then (λa' O=>S O∧wpAnyH P .any ops abo S n (abn.setIfInBounds i true) a' O) abo) [o] a w)
 (hr:Region.ready .any ops abn=[i]:=by kernel_rfl):wpAnyH P .any ops abo S (n+1) abn a w:=by
 refine wpAnyH_all hr (by simp) (λi' tR=>?_);rw[List.mem_singleton.1 tR];unfold wpList at h;unfold wpOp;rw[hi];simp only;split
 ·rename_i hw
  rw[aA hw] at h;refine h.imp (λL=>?_) (λL=>⟨L.1,?_⟩)
  ·unfold Oper.wp at L ⊢
   generalize (execOp a.eval o).run P w=r at *;cases r with
   | ok n O=>
     cases n<;>simp only[Oper.upon] at L ⊢<;>first
      | exact L
      | exact Calls.mono L (λe w'' he=>by
       cases e with
       | returned u=>exact he
       | panicked c=>exact he
       | outgrown=>obtain⟨a1,w1,h5⟩:=he;exact⟨a1,w1,h5⟩)
   | halt x O=>cases x<;>simp only[Oper.upon] at L ⊢<;>exact L
  ·obtain⟨a1,w1,h5⟩:=L.2;exact⟨a1,w1,h5⟩
 ·rename_i hw
  rw[aB hw] at h;exact h
def eU(h:abo .normal a w)(hr:Region.ready .any ops abn=[]:=by kernel_rfl):wpAnyH P .any ops abo S n abn a w:=wpAnyH_done hr h n
end
end Go.Hop
namespace Go.Proofs.YtpeepcmdehhbgaaGreatDoor.abn
open RowKit Hop
def slt(a b:aR):Bool:=Op.bytesLess a.toList b.toList
def rT(a b:aR):slt a b=decide (a.data.toList<b.data.toList):=by unfold slt;rw[bytesLess_eq,Lib.toList_data,Lib.toList_data]
def jF(a:aR):slt a a=false:=by rw[rT];exact aD (List.lt_irrefl _)
def rU(h:slt a b=true)(k:slt b c=true):slt a c=true:=by rw[rT] at *;exact aC (List.lt_trans (of_decide_eq_true h) (of_decide_eq_true k))
def oU(h:slt a b=false)(k:slt b a=false):a=b:=by rw[rT] at *;have I:=of_decide_eq_false h;have G:=of_decide_eq_false k;have e:a.data.toList=b.data.toList:=List.le_antisymm (List.not_lt.1 G) (List.not_lt.1 I);exact ByteArray.ext (Array.toList_inj.1 e)
theorem xg(h:slt a b=true):slt b a=false:=by
 cases hb:slt b a with
 | false=>rfl
 | true=>have:=rU h hb;rw[jF] at this;cases this
theorem IL{y z:aR}(h:slt x y=false)(k:slt y z=false):slt x z=false:=by
 cases hz:slt x z with
 | false=>rfl
 | true=>
   cases QJ:slt z y with
   | true=>rw[rU hz QJ] at h;cases h
   | false=>have e:=oU k QJ;rw[e,hz] at h;cases h
def FZ:a.toList=b.toList↔a=b:=by rw[Lib.toList_data,Lib.toList_data];exact⟨λe=>ByteArray.ext (Array.toList_inj.1 e),λe=>by rw[e]⟩
def BA(a b:aR):Int:=if slt a b then -1 else if slt b a then 1 else 0
theorem VI(a b:aR):(!(Op.bytesLess a.toList b.toList||a.toList == b.toList))=slt b a:=by
 cases I:slt a b with
 | true=>
   have G:=xg I;unfold slt at I;rw[I,G];rfl
 | false=>
   have Mx:=I;unfold slt at Mx;rw[Mx,Bool.false_or];cases G:slt b a with
   | false=>
     have:=oU I G;subst this;simp
   | true=>
     have jT:a.toList≠b.toList:=λe=>by have:=FZ.1 e;rw[this,jF] at G;cases G
     simp[jT]
def uh(w:X)(a:aR):dz W 193 #[aX a] w λe O=>e=b5 (aY false)∧w=O:=by go_in;go_wp2;go_ret;exact⟨by simp,rfl⟩
theorem Dc(w:X)(a b:aR):dz W 132 #[aX a,aX b] w λe O=>e=b5 (J (BA a b))∧w=O:=by
 have H:=VI a b;unfold BA;cases I:slt a b with
 | true=>
   rw[aA rfl];unfold slt at I;go_in;go_wp2_with (go_at_call 193;refine (uh _ _).mono ?_;rintro e O ⟨rfl,rfl⟩);go_ret;exact⟨rfl,rfl⟩
 | false=>
   rw[aB (by simp)];unfold slt at I;cases G:slt b a with
   | true=>
     rw[aA rfl];rw[G] at H;go_in;go_wp2_with (go_at_call 193;refine (uh _ _).mono ?_;rintro e O ⟨rfl,rfl⟩);all_goals first|(go_ret;exact⟨rfl,rfl⟩)|simp_all
   | false=>
     rw[aB (by simp)];rw[G] at H;go_in;go_wp2_with (go_at_call 193;refine (uh _ _).mono ?_;rintro e O ⟨rfl,rfl⟩);all_goals first|(go_ret;exact⟨rfl,rfl⟩)|simp_all
end Go.Proofs.YtpeepcmdehhbgaaGreatDoor.abn
namespace Go.Proofs.YtpeepcmdehhbgaaGreatDoor.abk
open RowKit Hop
def slt(a b:aR):Bool:=Op.bytesLess a.toList b.toList
def rT(a b:aR):slt a b=decide (a.data.toList<b.data.toList):=by unfold slt;rw[bytesLess_eq,Lib.toList_data,Lib.toList_data]
def jF(a:aR):slt a a=false:=by rw[rT];exact aD (List.lt_irrefl _)
def rU(h:slt a b=true)(k:slt b c=true):slt a c=true:=by rw[rT] at *;exact aC (List.lt_trans (of_decide_eq_true h) (of_decide_eq_true k))
def oU(h:slt a b=false)(k:slt b a=false):a=b:=by rw[rT] at *;have I:=of_decide_eq_false h;have G:=of_decide_eq_false k;have e:a.data.toList=b.data.toList:=List.le_antisymm (List.not_lt.1 G) (List.not_lt.1 I);exact ByteArray.ext (Array.toList_inj.1 e)
theorem xg(h:slt a b=true):slt b a=false:=by
 cases hb:slt b a with
 | false=>rfl
 | true=>have:=rU h hb;rw[jF] at this;cases this
def FZ:a.toList=b.toList↔a=b:=by rw[Lib.toList_data,Lib.toList_data];exact⟨λe=>ByteArray.ext (Array.toList_inj.1 e),λe=>by rw[e]⟩
abbrev Sm:=List Dl
def lk(q:Sm)(x:aR):Option Nat:=(q.find? λd=>decide (d.1=x)).map (·.2)
def gt(q:Sm)(x:aR):Nat:=(lk q x).getD 0
def Rh(q:Sm):Prop:=q.Pairwise λa b=>slt a.1 b.1=true
def N3(q:Sm)(x:aR):Sm:=q.takeWhile λd=>slt d.1 x
def sI(q:Sm)(x:aR):Sm:=q.dropWhile λd=>slt d.1 x
def put(q:Sm)(x:aR)(v:Nat):Sm:=if (lk q x).isSome then q.map λd=>if d.1=x then (x,v) else d else N3 q x++(x,v)::sI q x
def N4(x:aR):lk [] x=none:=rfl
def iU(d:Dl)(q:Sm)(x:aR):lk (d::q) x=if d.1=x then some d.2 else lk q x:=by unfold lk;rw[List.find?_cons];by_cases h:d.1=x<;>simp[h]
def zN(a b:Sm)(x:aR):lk (a++b) x=(lk a x).or (lk b x):=by unfold lk;rw[List.find?_append];cases a.find? (λd=>decide (d.1=x))<;>simp
def sN{q:Sm}:lk q x=none↔∀d∈q,d.1≠x:=by unfold lk;simp
def xh{q:Sm}{v:Nat}(h:lk q x=some v):(x,v)∈q:=by unfold lk at h;simp only[Option.map_eq_some_iff] at h;obtain⟨d,hd,rfl⟩:=h;have I:=List.mem_of_find?_eq_some hd;have G:=List.find?_some hd;simp only[decide_eq_true_eq] at G;rw[<-G];exact I
def vV(q:Sm)(x:aR):N3 q x++sI q x=q:=List.takeWhile_append_dropWhile
def IM{q:Sm}:∀d∈N3 q x,slt d.1 x=true:=λd hd=>by unfold N3 at hd;exact List.all_eq_true.1 List.all_takeWhile d hd
theorem Ri{q:Sm}(hs:Rh q):∀d∈sI q x,slt d.1 x=false:=by
 induction q with
 | nil=>intro d hd;simp[sI] at hd
 | cons a q ih=>
   intro d hd;unfold sI at hd;rw[List.dropWhile_cons] at hd;have vQ:=List.pairwise_cons.1 hs;split at hd;·exact ih vQ.2 d hd
   ·rename_i h
    have ha:slt a.1 x=false:=by simpa using h
    rcases List.mem_cons.1 hd with rfl|hd
    ·exact ha
    ·cases Zo:slt d.1 x with
     | false=>rfl
     | true=>rw[rU (vQ.1 d hd) Zo] at ha;cases ha
def BB(q:Sm)(x:aR)(v:Nat)(y:aR):lk (put q x v) y=if y=x then some v else lk q y:=by
 unfold put;split
 ·rename_i h
  have key:∀q:Sm,(lk q x).isSome=true->lk (q.map λd=>if d.1=x then (x,v) else d) y=if y=x then some v else lk q y:=by
   intro q;induction q with
   | nil=>intro h;simp[lk] at h
   | cons a q ih=>
     intro h;rw[bQ,iU,iU];rw[iU] at h;by_cases ha:a.1=x
     ·rw[aA ha]
      by_cases hy:y=x;·rw[aA hy,aA hy.symm]
      ·rw[aB hy,aB (λe=>hy e.symm),aB (λe=>hy (by rw[<-e,ha]))]
       by_cases hq:(lk q x).isSome=true;·rw[ih hq,aB hy]
       ·have hn:lk q x=none:=by simpa using hq
        have:(q.map λd=>if d.1=x then (x,v) else d)=q:=by
         conv=>rhs;rw[<-List.map_id q]
         exact cO λd hd=>by rw[aB (sN.1 hn d hd)];rfl
        rw[this]
     ·rw[aB ha] at h
      rw[aB ha,ih h];by_cases hy:y=x;·rw[aA hy,aB (λe=>ha (e.trans hy)),aA hy]
      ·rw[aB hy,aB hy]
  exact key q h
 ·rename_i h
  have hn:lk q x=none:=by simpa using h
  rw[zN,iU];by_cases hy:y=x
  ·rw[aA hy,aA hy.symm]
   have:lk (N3 q x) y=none:=sN.2 λd hd e=>by have:=IM d hd;rw[e,hy,jF] at this;cases this
   rw[this];rfl
  ·rw[aB hy,aB (λe=>hy e.symm),<-zN,vV]
def xi(q:Sm)(x:aR)(v:Nat):(put q x v).length=if (lk q x).isSome then q.length else q.length+1:=by
 unfold put;split;·rw[bj]
 ·rw[bd,bD]
  have:=congrArg List.length (vV q x);rw[bd] at this;omega
def BD{q:Sm}(hs:Rh q)(x:aR)(v:Nat):Rh (put q x v):=by
 unfold put;split
 ·unfold Rh
  rw[List.pairwise_map];refine List.Pairwise.imp (λ{a b}h=>?_) hs;have ea:(if a.1=x then ((x,v):Dl) else a).1=a.1:=by split<;>simp_all
  have eb:(if b.1=x then ((x,v):Dl) else b).1=b.1:=by split<;>simp_all
  rw[ea,eb];exact h
 ·rename_i h
  have hn:lk q x=none:=by simpa using h
  have z6:=hs;rw[<-vV q x] at z6;obtain⟨I,G,L⟩:=List.pairwise_append.1 z6;refine List.pairwise_append.2 ⟨I,List.pairwise_cons.2 ⟨λd hd=>?_,G⟩,λa ha d hd=>?_⟩
  ·cases Y:slt x d.1 with
   | true=>rfl
   | false=>
     have:=oU Y (Ri hs d hd);exact absurd this.symm (sN.1 hn d (by rw[<-vV q x];exact List.mem_append.2 (.inr hd)))
  ·rcases List.mem_cons.1 hd with rfl|hd
   ·exact IM a ha
   ·exact L a ha d hd
theorem F_{q:Sm}(hs:Rh q){d:Dl}(hd:d∈q):lk q d.1=some d.2:=by
 induction q with
 | nil=>cases hd
 | cons a q ih=>
   have vQ:=List.pairwise_cons.1 hs;rw[iU];rcases List.mem_cons.1 hd with rfl|hd
   ·rw[aA rfl]
   ·rw[aB (λe=>by have:=vQ.1 d hd;rw[e,jF] at this;cases this)]
    exact ih vQ.2 hd
theorem vW{p q:Sm}(hp:Rh p)(hq:Rh q)(h:∀x,lk p x=lk q x):p=q:=by
 induction p generalizing q with
 | nil=>
   cases q with
   | nil=>rfl
   | cons a q=>have:=h a.1;rw[N4,iU,aA rfl] at this;cases this
 | cons a p ih=>
   cases q with
   | nil=>have:=h a.1;rw[N4,iU,aA rfl] at this;cases this
   | cons b q=>
     have V9:=List.pairwise_cons.1 hp;have My:=List.pairwise_cons.1 hq;have e1:a.1=b.1:=by
      have ha:=h a.1;have hb:=h b.1;rw[iU,aA rfl] at ha;rw[iU b q b.1,aA rfl] at hb;have ma:=xh ha.symm;have mb:=xh hb;refine oU ?_ ?_
      ·cases Y:slt a.1 b.1 with
       | false=>rfl
       | true=>
         rcases List.mem_cons.1 ma with e|hm
         ·rw[<-e,jF] at Y;cases Y
         ·have:=My.1 _ hm
          rw[xg Y] at this;cases this
      ·cases Y:slt b.1 a.1 with
       | false=>rfl
       | true=>
         rcases List.mem_cons.1 mb with e|hm
         ·rw[<-e,jF] at Y;cases Y
         ·have:=V9.1 _ hm
          rw[xg Y] at this;cases this
     have e2:a.2=b.2:=by have ha:=h a.1;rw[iU,aA rfl,iU,aA e1.symm] at ha;injection ha
     have:a=b:=Prod.ext e1 e2;subst this;rw[ih V9.2 My.2 λx=>?_];have Y:=h x;rw[iU,iU] at Y;by_cases he:a.1=x
     ·have n1:lk p x=none:=sN.2 λd hd e=>by have:=V9.1 d hd;rw[e,<-he,jF] at this;cases this
      have n2:lk q x=none:=sN.2 λd hd e=>by have:=My.1 d hd;rw[e,<-he,jF] at this;cases this
      rw[n1,n2]
     ·rw[aB he,aB he] at Y;exact Y
end Go.Proofs.YtpeepcmdehhbgaaGreatDoor.abk
