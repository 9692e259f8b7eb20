/- Csum, Cmayp, Cref, Cmay, Cadd. -/
import Derived.Test.YtpeepcmdehhbgaaGreatDoorJs05
import Derived.Test.YtpeepcmdehhbgaaGreatDoorJs04
set_option linter.all false
set_option maxRecDepth 100000
set_option maxHeartbeats 2000000
open Go.Value renaming int->ae,slice->Z,string->aX,bool->aY,agg->aZ,tuple->a_
open Go.Ending renaming returned->b5
open Go.IntKind renaming i64->af,u64->ah
open Go (J az aE aA aB aC aD ay aj am ap aw aL aK aJ aI aH aV aU aT aR aQ aP aO aN)
open Go.Proofs.Tryz renaming prog->W,underlying9->cW
open Nat renaming le_refl->bh,zero_le->bo,le_trans->bB
open List renaming length_take->bn,take_succ_eq_append_getElem->br,length_cons->bD,getElem_mem->bF,take_of_length_le->bH,mem_cons_of_mem->bR,mem_of_mem_take->bW,nil_append->ch,mem_cons_self->cj,length_nil->cx,cons_append->cD,take_succ_cons->cG,length_filter_le->c_
open Bool renaming and_eq_true->bU
open Go renaming Value->K,World->X,Calls->dz,Addr->dA,maxLen->dG
open Go.Proofs.YtpeepcmdehhbgaaGreatDoor (Dl)
open Go.Proofs.YtpeepcmdehhbgaaGreatDoor.abk (Sm)
variable{q:Sm}{l:List Dl}{n k v:Nat}{w:X}{V:aV}{x:aR}
namespace Go.Proofs.YtpeepcmdehhbgaaGreatDoor.abk
open RowKit Hop
def Ry:pV W 225 9 42 .u64:=⟨Tryz.underlying225,cW,Tryz.underlying42,λw=>by kernel_rfl⟩
def o6:Nat:=18446744073709551615
def fq(q:Sm)(x:aR):Option Int:=(lk q x).map λv=>(v:Int)
def BJ(q:Sm)(x:aR):(fq q x).getD 0=((gt q x:Nat):Int):=by unfold fq gt;cases lk q x<;>rfl
def BK(q:Sm)(x:aR):(fq q x).isSome=(lk q x).isSome:=by unfold fq;cases lk q x<;>rfl
def VS(q:Sm)(x:aR)(v:Nat):(λy=>if y=x then some (v:Int) else fq q y)=fq (put q x v):=by funext y;unfold fq;rw[BB q];split<;>rfl
structure Right(q:Sm):Prop where
 pB:Rh q
 num:∀d∈q,d.2<=o6
 txt:∀d∈q,d.1.size<=dG
theorem Right.gt{q:Sm}(h:Right q)(x:aR):gt q x<=o6:=by
 unfold Proofs.YtpeepcmdehhbgaaGreatDoor.abk.gt;cases Y:lk q x with
 | none=>exact bo _
 | some v=>exact h.num _ (xh Y)
theorem Right.put{q:Sm}(h:Right q){x:aR}{v:Nat}(Y:x.size<=dG)(hv:v<=o6):Right (put q x v):=by
 refine⟨BD h.pB x v,λd hd=>?_,λd hd=>?_⟩
 ·have:=F_ (BD h.pB x v) hd
  rw[BB q] at this;split at this;·injection this with this;rw[<-this];exact hv
  ·exact h.num _ (xh this)
 ·have:=F_ (BD h.pB x v) hd
  rw[BB q] at this;split at this;·rename_i e;rw[e];exact Y
  ·exact h.txt _ (xh this)
def zX:Right []:=⟨List.Pairwise.nil,by simp,by simp⟩
def Ds(w:X)(b:Nat)(q:Sm):Prop:=SMap W 9 42 .u64 w b q.length (fq q)
def gT(s:Nat)(q:Sm):dW:=λw V=>V s∧Right q∧∃b,V b∧b≠s∧eJ w s 227 #[.map (some b)]∧Ds w b q
def gT.framed(s:Nat)(q:Sm):eu (gT s q):=λw O V h N=>by obtain⟨I,G,b,L,h4,h5,h6⟩:=h;exact⟨I,G,b,L,h4,(N s I).trans h5,h6.keep (N b L)⟩
def gT.wide{s:Nat}{V':aV}(h:gT s q w V)(hV:∀b,V b->V' b):gT s q w V':=by obtain⟨I,G,b,L,h4⟩:=h;exact⟨hV s I,G,b,hV b L,h4⟩
def oS(w:X):dz W 115 #[] w λe O=>∃s,e=b5 (((s:Nat):K))∧gT s [] O (New w O)∧Grow w O:=by
 have QK:=@run_makeMap W;go_in;go_wp2;go_ret;have eD:Grow w (w.alloc (.map #[] 0)):=(Below.refl _ w).alloc (bh _) _;have fk:Grow (w.alloc (.map #[] 0)) ((w.alloc (.map #[] 0)).alloc (.cells #[.map (some (w:Nat))] 227)):=(Below.refl _ _).alloc (bh _) _;refine⟨_,rfl,⟨⟨by simp,by simp⟩,zX,(w:Nat),⟨bh _,by simp;omega⟩,by simp,?_,?_⟩,eD.trans fk⟩
 ·have:=eJ.made (w.alloc (.map #[] 0)) 227 #[.map (some (w:Nat))]
  rwa [fp] at this
 ·have:=(SMap.made (P:=W) (k:=9) (e:=42) (qe := .u64) w).grow fk
  exact this.imp λ_ _=>rfl
def qG(w:X)(s:Nat)(q:Sm)(V:aV)(h:gT s q w V)(x:aR)(Y:x.size<=dG):dz W 173 #[s,aX x] w λe O=>e=b5 (ae ah ((gt q x:Nat):Int))∧w=O:=by obtain⟨I,G,b,L,h4,hB,hM⟩:=h;have c0:=hB.cell 0;have hl:=SMap.II Ry hM x Y;rw[BJ] at hl;go_in;go_wp2;go_ret;exact⟨rfl,rfl⟩
def Dt(w:X)(a b:Nat)(ha:a<=o6)(hb:b<=o6):dz W 297 #[ae ah a,ae ah b] w λe O=>e=b5 (ae ah ((if a+b<=o6 then a+b else o6:Nat):Int))∧w=O:=by
 unfold o6 at *;have hs:IntKind.u64.wrap ((18446744073709551615:Int)-(b:Int))=((18446744073709551615-b:Nat):Int):=by rw[IntKind.wrap_u64];omega
 by_cases h:a+b<=18446744073709551615
 ·rw[aA h]
  have TS:IntKind.u64.wrap ((a:Int)+(b:Int))=((a+b:Nat):Int):=by rw[IntKind.wrap_u64];omega
  have hd:decide (18446744073709551615-b<a)=false:=aD ap;go_in;go_wp2;go_ret;exact⟨rfl,rfl⟩
 ·rw[aB h]
  have hd:decide (18446744073709551615-b<a)=true:=aC ap;go_in;go_wp2;go_ret;exact⟨rfl,rfl⟩
def add(q:Sm)(l:List Dl):Sm:=l.foldl (λq d=>put q d.1 (gt q d.1+d.2)) q
def add_nil(q:Sm):add q []=q:=rfl
def lJ(q:Sm)(d:Dl)(l:List Dl):add q (d::l)=add (put q d.1 (gt q d.1+d.2)) l:=rfl
def rW(q:Sm)(l m:List Dl):add q (l++m)=add (add q l) m:=List.foldl_append
def add_one(q:Sm)(l:List Dl)(d:Dl):add q (l++[d])=put (add q l) d.1 (gt (add q l) d.1+d.2):=by rw[rW];rfl
def Qi(l:List Dl)(x:aR):Nat:=((l.filter λd=>decide (d.1=x)).map (·.2)).sum
def sW(d:Dl)(l:List Dl)(x:aR):Qi (d::l) x=(if d.1=x then d.2 else 0)+Qi l x:=by unfold Qi;by_cases h:d.1=x<;>simp[h]
def xy(q:Sm)(x:aR)(v:Nat)(y:aR):gt (put q x v) y=if y=x then v else gt q y:=by unfold gt;rw[BB];split<;>rfl
theorem G9(q:Sm)(l:List Dl)(x:aR):gt (add q l) x=gt q x+Qi l x:=by
 induction l generalizing q with
 | nil=>rfl
 | cons d l ih=>
   rw[lJ,ih,xy,sW];by_cases h:x=d.1;·rw[aA h,aA h.symm,h];omega
   ·rw[aB h,aB (λe=>h e.symm)];omega
def i7(q mo:Sm):List Dl->Bool
 | []=>true
 | d::l=>decide (gt mo d.1+d.2+gt q d.1<=o6)&&i7 q (put mo d.1 (gt mo d.1+d.2)) l
theorem p9(q:Sm)(l:List Dl)(d:Dl):∀mo,i7 q mo (l++[d])=(i7 q mo l&&decide (gt (add mo l) d.1+d.2+gt q d.1<=o6)):=by
 induction l with
 | nil=>intro mo;rw[ch,i7,i7,i7,add_nil,Bool.and_true,Bool.true_and]
 | cons a l ih=>intro mo;rw[cD,i7,i7,ih,lJ,Bool.and_assoc]
theorem Ny(q:Sm)(l:List Dl):∀mo,i7 q mo l=true↔∀d∈l,gt q d.1+gt mo d.1+Qi l d.1<=o6:=by
 induction l with
 | nil=>intro mo;simp[i7]
 | cons a l ih=>
   intro mo;rw[i7,bU,decide_eq_true_eq,ih];have key:∀x:aR,gt (put mo a.1 (gt mo a.1+a.2)) x+Qi l x=gt mo x+Qi (a::l) x:=λx=>by
    rw[xy,sW];by_cases h:x=a.1;·rw[aA h,aA h.symm,h];omega
    ·rw[aB h,aB (λe=>h e.symm)];omega
   constructor
   ·rintro ⟨I,G⟩ d hd
    rcases List.mem_cons.1 hd with rfl|hd
    ·by_cases he:∃e∈l,e.1=d.1
     ·obtain⟨e,he,hed⟩:=he
      have:=G e he;rw[hed] at this;have:=key d.1;omega
     ·have h0:Qi l d.1=0:=by
       unfold Qi;have:l.filter (λe=>decide (e.1=d.1))=[]:=List.filter_eq_nil_iff.2 λe hel h=>he ⟨e,hel,of_decide_eq_true h⟩;rw[this];rfl
      rw[sW,aA rfl,h0];omega
    ·have:=G d hd
     have:=key d.1;omega
   ·intro h
    refine⟨?_,λd hd=>?_⟩
    ·have:=h a cj
     rw[sW,aA rfl] at this;omega
    ·have:=h d (bR _ hd)
     have:=key d.1;omega
theorem Nz{mo:Sm}:i7 q mo l=true->(∀x,gt mo x<=o6)->∀x,gt (add mo l) x<=o6:=by
 induction l generalizing mo with
 | nil=>intro _ h;exact h
 | cons a l ih=>
   intro h hm;rw[i7,bU,decide_eq_true_eq] at h;rw[lJ];refine ih h.2 λx=>?_;rw[xy];split;·omega
   ·exact hm x
theorem zY:Right q->(∀d∈l,d.1.size<=dG)->(∀k,k<=l.length->∀x,gt (add q (l.take k)) x<=o6)->Right (add q l):=by
 induction l generalizing q with
 | nil=>intro h _ _;exact h
 | cons a l ih=>
   intro h ht hm;rw[lJ];have I:=hm 1 (by simp) a.1;rw[cG,List.take_zero,lJ,add_nil,xy,aA rfl] at I;refine ih (h.put (ht a cj) I) (λd hd=>ht d (bR _ hd)) λk N x=>?_;have:=hm (k+1) (by simp;omega) x;rwa [cG,lJ] at this
theorem nA:∀(l:List Dl)(q:Sm),(add q l).length<=q.length+l.length:=by
 intro l;induction l with
 | nil=>intro q;exact bh _
 | cons a l ih=>
   intro q;have I:=ih (put q a.1 (gt q a.1+a.2));have G:=xi q a.1 (gt q a.1+a.2);rw[lJ,bD];split at G<;>omega
def news(q mo:Sm):Nat:=(mo.filter λd=>(lk q d.1).isNone).length
def iV(q:Sm)(l:List Dl):Int:=if i7 q [] l then (if q.length+news q (add [] l) > 16 then 24 else 0) else 25
theorem pc{mo:Sm}(h:i7 q mo l=true)(k:Nat):i7 q mo (l.take k)=true:=by
 induction l generalizing mo k with
 | nil=>simp[i7]
 | cons a l ih=>
   cases k with
   | zero=>rfl
   | succ k=>
     rw[i7,bU] at h;rw[cG,i7,bU];exact⟨h.1,ih h.2 k⟩
def Ga(ht:∀d∈l,d.1.size<=dG)(h:i7 q [] l=true):Right (add [] l):=zY zX ht λk _=>Nz (pc h k) λx=>bo _
theorem Gb(N:k<l.length)(h:o6<gt (add [] (l.take k)) l[k].1+l[k].2+gt q l[k].1):i7 q [] l=false:=by
 cases ho:i7 q [] l with
 | false=>rfl
 | true=>
   have:=pc ho (k+1);rw[br N,p9,bU,decide_eq_true_eq] at this;omega
theorem Gc{mo:Sm}(hs:Rh mo){p:Dl->Bool}{left:ByteArray->Bool}(Y:lk mo x=some v)(hl:left x=true):(mo.filter λd=>p d&&!(left d.1&&decide (d.1≠x))).length=(mo.filter λd=>p d&&!left d.1).length+(if p (x,v) then 1 else 0):=by
 induction mo with
 | nil=>cases Y
 | cons a mo ih=>
   have vQ:=List.pairwise_cons.1 hs;rw[iU] at Y;by_cases ha:a.1=x
   ·rw[aA ha] at Y
    injection Y with Y;have hax:a=(x,v):=Prod.ext ha Y;have rJ:(mo.filter λd=>p d&&!(left d.1&&decide (d.1≠x)))=mo.filter λd=>p d&&!left d.1:=by
     refine List.filter_congr λd hd=>?_;have jT:d.1≠x:=λe=>by have:=vQ.1 d hd;rw[e,ha,jF] at this;cases this
     simp[jT]
    subst hax;rw[List.filter_cons,List.filter_cons,rJ];simp only[hl,ne_eq,not_true_eq_false,decide_false,Bool.and_false,Bool.not_false,Bool.and_true,Bool.not_true];split<;>simp_all
   ·rw[aB ha] at Y
    rw[List.filter_cons,List.filter_cons];have:=ih vQ.2 Y;simp only[ne_eq,ha,not_false_eq_true,decide_true,Bool.and_true];split;·rw[bD,bD,this];omega
    ·exact this
def NA{A:aU}{q:List Dl}(h:In w V 2 A n (fm q))(N:k<n):∃(ad:dA)(hq:k<q.length),A=some ad∧(∀w1,Grow w w1->w1.cell? (ad.add (k*2))=some (aX q[k].1))∧∀w1,Grow w w1->w1.cell? ⟨(ad.add (k*2)).block,(ad.add (k*2)).off+1,none⟩=some (ae ah ((q[k].2:Nat):Int)):=by obtain⟨ad,hq,e,_,hb,e0,e12⟩:=In.mr (cells:=mN) h ap iH N;exact⟨ad,hq,e,λw1 H=>(H.cell (by rw[block_add];exact hb)).trans (e0 _ rfl),λw1 H=>(H.cell (p:=⟨(ad.add (k*2)).block,(ad.add (k*2)).off+1,none⟩) (show (ad.add (k*2)).block<_ by rw[block_add];exact hb)).trans (e12 0 _ rfl)⟩
def a3W(h:n<=o6):(Lit.int .u64 (n:Int)).wf=true:=by unfold o6 at h;simp[Lit.wf,IntKind.min,IntKind.max,IntKind.signed,IntKind.bits];omega
def Du{b:Nat}(h:Ds w b q)(Y:x.size<=dG)(hv:v<=o6)(hn:q.length<dG):∃O,(Instr.mapUpdate 225 (.map (some b)) (aX x) (ae ah v)).run W w=.ok () O∧Ds O b (Proofs.YtpeepcmdehhbgaaGreatDoor.abk.put q x v)∧dM (λc=>c=b) w O:=by obtain⟨O,I,G,L⟩:=SMap.put Ry h x v Y (a3W hv) hn;refine⟨O,I,?_,L⟩;unfold Ds;rw[xi,<-VS,<-BK];exact G
def IX(h:n<=18446744073709551615):IntKind.u64.wrap ((18446744073709551615:Int)-(n:Int))=((18446744073709551615-n:Nat):Int):=by rw[IntKind.wrap_u64];omega
def Rz{m:Nat}(h:m+n<=18446744073709551615):IntKind.u64.wrap ((m:Int)+(n:Int))=((m+n:Nat):Int):=by rw[IntKind.wrap_u64];omega
def RA(w:X)(s:Nat)(q:Sm)(V:aV)(h:gT s q w V)(A:aU)(n c:Nat)(l:List Dl)(D:aV)(hl:In w D 2 A n (fm l))(hd:∀d∈l,d.1.size<=dG∧d.2<=o6)(hn:n<=1048576)(hq:q.length<=1048576):dz W 296 #[s,Z A n c] w λe O=>e=b5 (J (iV q l))∧Grow w O:=by
 have rA:l.length=n:=by have:=hl.1;rw[ka] at this;omega
 obtain⟨I,G,b,L,h4,uW,uY⟩:=h;obtain⟨abl,HE⟩:=az (iV q l:Int);rw[<-HE.out];have QK:=@run_makeMap W;have eD:Grow w (w.alloc (.map #[] 0)):=(Below.refl _ w).alloc (bh _) _;have ry:Ds (w.alloc (.map #[] 0)) (w:Nat) []:=(SMap.made (P:=W) (k:=9) (e:=42) (qe := .u64) w).imp λ_ _=>rfl;go_in;go_wp2_with fail;obtain⟨m,HM⟩:=az ((w:Nat):Nat);rw[<-HM.out] at ry ⊢;go_loopw [16] (λi wr=>∃k:Nat,k<=n∧i=J k∧i7 q [] (l.take k)=true∧Ds wr m (add [] (l.take k))∧Grow w wr) (λi _=>n-(intOf i).toNat);case atStart=>exact⟨0,by omega,rfl,rfl,ry,eD⟩
 case round=>
  clear ry eD;obtain⟨k,oL,rfl,gC,hm,jU⟩:=hrel;have YZ:=Ga (λd Iv=>(hd d (bW Iv)).1) gC;have hB:=uW.grow jU;by_cases N:k<n
  ·have hkt:decide ((k:Int)<(n:Int))=true:=aC ap
   obtain⟨ad,T_,rfl,Fx,K0⟩:=NA (hl.grow jU) N;have QL:=hd _ (bF T_);have oI:add [] (l.take (k+1))=put (add [] (l.take k)) l[k].1 (gt (add [] (l.take k)) l[k].1+l[k].2):=by rw[br T_,add_one]
   have Ky:i7 q [] (l.take (k+1))=(i7 q [] (l.take k)&&decide (gt (add [] (l.take k)) l[k].1+l[k].2+gt q l[k].1<=o6)):=by rw[br T_,p9]
   have Bc:o6<gt (add [] (l.take k)) l[k].1+l[k].2+gt q l[k].1->abl=25:=λh=>by rw[HE.out];unfold iV;rw[Gb T_ h];rfl
   have fj:(add [] (l.take k)).length<=1048576:=by have:=nA (l.take k) [];rw[bn] at this;simp only[cx] at this;omega
   have MA:=YZ.gt l[k].1;have Uq:=G.gt l[k].1;generalize l[k]=dk at Fx K0 QL oI Ky Bc MA Uq;have f0:=Fx _ (Grow.refl _);have f1:=K0 _ (Grow.refl _);have fu:Grow wr (wr.alloc (.cells #[aX dk.1,ae ah dk.2] 147)):=(Below.refl _ wr).alloc (bh _) _;have Kz:=eJ.made wr 147 #[aX dk.1,ae ah dk.2];have zE:=hm.grow fu;have lS:=hB.grow fu;obtain⟨gm,HGM⟩:=az (gt (add [] (l.take k)) dk.1:Nat);obtain⟨gq,Zw⟩:=az (gt q dk.1:Nat);have Fv:=SMap.II Ry zE dk.1 QL.1;rw[BJ,<-HGM.out] at Fv;have k0:=Kz.cell 0;obtain⟨wa,HA⟩:=az (wr.alloc (.cells #[aX dk.1,ae ah dk.2] 147):X);obtain⟨x,HX⟩:=az ((wr:Nat):Nat);have uv:Below (w:Nat) w wa:=HA.out▸eQ jU fu jU.size;have pL:eJ wa x 147 #[aX dk.1,ae ah dk.2]:=by rw[HA.out,HX.out];exact Kz
   have hB:eJ wa s 227 #[.map (some b)]:=HA.out▸lS;have hma:Ds wa m (add [] (l.take k)):=HA.out▸zE;have wK:∀w1,Grow wa w1->(Instr.lookup 225 (.map (some b)) (aX dk.1) false).run W w1=.ok (ae ah gq) w1:=λw1 H=>by have:=SMap.II Ry (uY.grow (eQ uv H uv.size)) dk.1 QL.1;rwa [BJ,<-Zw.out] at this
   rw[<-HGM.out] at oI Ky Bc MA;rw[<-Zw.out] at Ky Bc Uq;unfold o6 at Ky Bc MA Uq QL;have QI:=IX MA;have z6:=IX Uq;clear lS Kz hm zE fu;by_cases yQ:18446744073709551615-gm<dk.2
   ·have a3X:decide (18446744073709551615-gm<dk.2)=true:=aC yQ
    obtain rfl:abl=25:=Bc ap;go_wp2_with fail;rw[<-HA.out,<-HX.out];clear Fv k0;have c0:=λw1(H:Grow _ w1)=>pL.grow H |>.cell 1
    refine fh ?_;intro w1 H;clear c0;clear wK;go_wp2;go_ret;exact⟨rfl,eQ uv H uv.size⟩
   ·have a3X:decide (18446744073709551615-gm<dk.2)=false:=aD yQ
    have Mb:=Rz (show gm+dk.2<=18446744073709551615 by omega);by_cases pN:18446744073709551615-gq<gm+dk.2
    ·have a3Y:decide (18446744073709551615-gq<gm+dk.2)=true:=aC pN
     obtain rfl:abl=25:=Bc ap;go_wp2_with fail;rw[<-HA.out,<-HX.out];clear Fv k0;have c0:=λw1(H:Grow _ w1)=>pL.grow H |>.cell 1
     have c1:=λw1(H:Grow _ w1)=>hB.grow H |>.cell 0
     have c2:=λw1(H:Grow _ w1)=>pL.grow H |>.cell 0
     have c3:=λw1(H:Grow _ w1)=>wK w1 H;refine fh ?_;intro w1 H;clear c0 c1 c2 c3;clear wK;go_wp2;go_ret;exact⟨rfl,eQ uv H uv.size⟩
    ·have a3Y:decide (18446744073709551615-gq<gm+dk.2)=false:=aD pN
     rw[aC (show gm+dk.2+gq<=18446744073709551615 by omega),gC] at Ky;go_wp2_with fail;rw[<-HA.out,<-HX.out];clear Fv k0;have c0:=λw1(H:Grow _ w1)=>pL.grow H |>.cell 1
     have c1:=λw1(H:Grow _ w1)=>hB.grow H |>.cell 0
     have c2:=λw1(H:Grow _ w1)=>pL.grow H |>.cell 0
     have c3:=λw1(H:Grow _ w1)=>wK w1 H;refine fh ?_;intro w1 H;clear c0 c1 c2 c3;clear wK;obtain⟨w5,Cx,Zx,ra⟩:=Du (hma.grow H) QL.1 (show gm+dk.2<=o6 by unfold o6;omega) (by unfold dG;omega);have k0:=(pL.grow H).cell 0;have k1:=(pL.grow H).cell 1;rw[<-oI] at Zx;rw[Int.natCast_add] at Cx;have ng:Grow w w5:=Below.trans (eQ uv H uv.size) (ra.below (B:=(w:Nat)) (λb hb=>by rw[hb,HM.out];exact bh _) (bB uv.size H.size));clear hma ra pL hB H;go_wp2_with fail;go_roundw;case rel=>exact⟨k+1,by omega,by go_num,Ky,Zx,ng⟩
     case measure=>simp[intOf];omega
  ·obtain rfl:k=n:=by omega
   have hkt:decide ((k:Int)<(k:Int))=false:=aD ap;rw[bH ap] at gC hm YZ;have fj:=λty=>SMap.len (uY.grow jU) Ry ty;have c0:=hB.cell 0;obtain⟨w2,eR,⟨left,Fw,Qj⟩,fk,TP⟩:=SMap.range Ry hm;have Y_:(add [] l).length<=1048576:=by have:=nA l [];simp only[cx] at this;omega
   have hE:abl=if q.length+news q (add [] l) > 16 then 24 else 0:=by rw[HE.out];unfold iV;rw[aA gC]
   obtain⟨mo,HMO⟩:=az (add [] l);rw[<-HMO.out] at Fw Qj YZ hE Y_;have uw:=eQ jU fk jU.size;obtain⟨r,HR⟩:=az ((wr:Nat):Nat);have Y7:(w:Nat)<=r:=by rw[HR.out];exact jU.size
   clear hm QK;go_wp2_with fail;rw[<-HR.out] at Fw ⊢;have o5:(mo.filter λd=>(lk q d.1).isNone&&!left d.1).length=0:=by
    rw[List.length_eq_zero_iff,List.filter_eq_nil_iff];intro d Iv;have I:(lk mo d.1).isSome=true:=by rw[F_ YZ.pB Iv];rfl
    rw[Qj d.1 (YZ.txt d Iv),BK,I];simp
   go_loopw [9] (λnv wz=>∃(left:ByteArray->Bool)(cnt:Nat),nv=J ((q.length+(mo.filter λd=>(lk q d.1).isNone&&!left d.1).length:Nat):Int)∧jb W 9 42 .u64 wz m r mo.length (fq mo) left cnt∧Grow w wz) (λ_ wz=>wz.rangeLeft m r);case atStart=>exact⟨left,_,by rw[o5];rfl,Fw,uw⟩
   case round=>
    clear Fw Qj o5 fk uw fj c0;obtain⟨left,cnt,rfl,Fw,uw⟩:=hrel;have c0:=(uW.grow uw).cell 0;rcases Fw.next Ry 0 with ⟨h0,hl0,eR⟩|⟨x,v,w3,cnt3,QF,hlx,Y8,hwv,eR,VT,fS,mz,hen⟩
    ·have Iu:(mo.filter λd=>(lk q d.1).isNone&&!left d.1).length=news q mo:=by
      unfold news;congr 1;refine List.filter_congr λd _=>?_;rw[hl0];simp
     rw[Iu]
     generalize q.length+news q mo=abm at hE
     by_cases hT:abm > 16
     ·rw[aA hT] at hE
      subst hE
      have hT':decide ((16:Int)<(abm:Int))=true:=aC ap
      go_wp2
      go_ret
      exact⟨rfl,uw⟩
     ·rw[aB hT] at hE
      subst hE
      have hT':decide ((16:Int)<(abm:Int))=false:=aD ap
      go_wp2
      go_ret
      exact⟨rfl,uw⟩
    ·have Zy:lk mo x=some v.toNat∨True := .inr trivial
     obtain⟨v',hv'⟩:∃v',lk mo x=some v':=by
      unfold fq at Y8;cases hl:lk mo x with
      | none=>rw[hl] at Y8;cases Y8
      | some v'=>exact⟨v',rfl⟩
     have iB:=Gc YZ.pB (p:=λd=>(lk q d.1).isNone) hv' hlx;dsimp only at iB;have ib:Grow w w3:=Below.trans uw (mz.below (B:=(w:Nat)) (λb hb=>by rw[hb];exact Y7) uw.size);have c3:=(uW.grow ib).cell 0;have Cv:=SMap.look Ry (uY.grow ib) x QF;rw[BK] at Cv;have hcn:(mo.filter λd=>(lk q d.1).isNone&&!left d.1).length<=1048576:=bB (c_ _ _) Y_;have Ur:w3.rangeLeft m r<wr.rangeLeft m r:=by rw[VT.left_eq,Fw.left_eq];exact fS
     by_cases kT:(lk q x).isSome=true
     ·have hN:(lk q x).isNone=false:=by cases My:lk q x with
       | none=>rw[My] at kT;cases kT
       | some _=>rfl
      rw[hN] at iB
      rw[kT] at Cv
      simp only[Bool.false_eq_true,if_false,Nat.add_zero] at iB
      clear Y8 Zy hwv hv' kT hN uw c0
      go_wp2_with fail
      go_roundw
      case rel=>exact⟨_,cnt3,by rw[iB],VT,ib⟩
      case measure=>exact Ur
     ·have RB:(lk q x).isSome=false:=by simpa using kT
      have hN:(lk q x).isNone=true:=by cases My:lk q x with
       | none=>rfl
       | some _=>rw[My] at RB;cases RB
      rw[hN] at iB;rw[RB] at Cv;simp only[if_true] at iB;generalize (mo.filter λd=>(lk q d.1).isNone&&!left d.1).length=C at iB hcn ⊢;clear Y8 Zy hwv hv' kT RB hN uw c0;go_wp2_with fail;go_roundw;case rel=>exact⟨_,cnt3,by rw[iB];go_num,VT,ib⟩
      case measure=>exact Ur
def nj(q:Sm)(l:List Dl):Sm:=if iV q l=0 then add q l else q
def IY(h:iV q l=0):i7 q [] l=true:=by
 unfold iV at h;split at h;·assumption
 ·cases h
def RD(h:i7 q [] l=true)(N:k<l.length):gt (add q (l.take k)) l[k].1+l[k].2<=o6:=by have I:=pc h (k+1);rw[br N,p9,bU,decide_eq_true_eq] at I;have G:=I.2;rw[G9] at G ⊢;have:gt ([]:Sm) l[k].1=0:=rfl;omega
def NB(hq:Right q)(ht:∀d∈l,d.1.size<=dG)(h:i7 q [] l=true):Right (add q l):=by
 refine zY hq ht λk N x=>?_;rw[G9];have I:=(Ny q (l.take k) []).1 (pc h k);by_cases he:∃d∈l.take k,d.1=x
 ·obtain⟨d,hd,rfl⟩:=he
  have:=I d hd;omega
 ·have h0:Qi (l.take k) x=0:=by
   unfold Qi;have:(l.take k).filter (λe=>decide (e.1=x))=[]:=List.filter_eq_nil_iff.2 λe hel h=>he ⟨e,hel,of_decide_eq_true h⟩;rw[this];rfl
  rw[h0]
  exact hq.gt x
def sX(w:X)(s:Nat)(q:Sm)(V:aV)(h:gT s q w V)(hV:∀b,V b->b<(w:Nat))(A:aU)(n c:Nat)(l:List Dl)(D:aV)(hl:In w D 2 A n (fm l))(kV:∀b,D b->¬ V b)(hd:∀d∈l,d.1.size<=dG∧d.2<=o6)(hn:n<=1048576)(hq:q.length<=1048576):dz W 235 #[s,Z A n c] w λe O=>e=b5 (J (iV q l))∧gT s (nj q l) O (iY V w O)∧dM V w O:=by
 have rA:l.length=n:=by have:=hl.1;rw[ka] at this;omega
 have hm:=RA w s q V h A n c l D hl hd hn hq;have ej:=λw1(H:Grow w w1)=>gT.framed s q w w1 V h λb hb=>H.block b (hV b hb);obtain⟨I,G,b,L,h4,uW,uY⟩:=h;have k297:∀(vs:aP)(w:X),(callFunc 297 vs).run W w=.ok (.enter 297 vs) w:=λvs w=>by go_simp
 obtain⟨abl,HE⟩:=az (iV q l:Int);have Mc:abl=0->nj q l=add q l:=λh=>by unfold nj;rw[<-HE.out,aA h]
 have Md:abl≠0->nj q l=q:=λh=>by unfold nj;rw[<-HE.out,aB h]
 rw[<-HE.out] at hm ⊢;by_cases he:abl=0
 ·have gC:=IY (HE.out.symm.trans he)
  rw[Mc he];subst he;go_in;go_wp2_with fail;refine hm.mono ?_;rintro e w1 ⟨rfl,eD⟩;clear hm ej Mc Md;have U8:=hl.grow eD;have hM1:=uY.grow eD;have ky:=uW.grow eD;go_wp2_with fail;go_loopw [16] (λi wr=>∃k:Nat,k<=n∧i=J k∧Ds wr b (add q (l.take k))∧dM (λc=>c=b) w1 wr) (λi _=>n-(intOf i).toNat);case atStart=>exact⟨0,by omega,rfl,hM1,dM.dK (Grow.refl _)⟩
  case round=>
   clear hM1;obtain⟨k,oL,rfl,hM,hj⟩:=hrel;have hlr:In wr D 2 A n (fm l):=U8.just hj λc E e=>kV c E (by rw[e];exact L);have Qk:=hj.blk ky (λe=>h4 e.symm);by_cases N:k<n
   ·have hkt:decide ((k:Int)<(n:Int))=true:=aC ap
    obtain⟨ad,T_,rfl,Fx,K0⟩:=NA hlr N;have QL:=hd _ (bF T_);have oI:add q (l.take (k+1))=put (add q (l.take k)) l[k].1 (gt (add q (l.take k)) l[k].1+l[k].2):=by rw[br T_,add_one]
    have sv:=RD gC T_;have fj:(add q (l.take k)).length<dG:=by have:=nA (l.take k) q;rw[bn] at this;unfold dG;omega
    generalize l[k]=dk at Fx K0 QL oI sv;have f0:=Fx _ (Grow.refl _);have f1:=K0 _ (Grow.refl _);have fu:Grow wr (wr.alloc (.cells #[aX dk.1,ae ah dk.2] 147)):=(Below.refl _ wr).alloc (bh _) _;have Kz:=eJ.made wr 147 #[aX dk.1,ae ah dk.2];obtain⟨wa,HA⟩:=az (wr.alloc (.cells #[aX dk.1,ae ah dk.2] 147):X);obtain⟨x,HX⟩:=az ((wr:Nat):Nat);have uv:Grow wr wa:=HA.out▸fu;have pL:eJ wa x 147 #[aX dk.1,ae ah dk.2]:=by rw[HA.out,HX.out];exact Kz
    have Mw:=Qk.grow uv;have hMa:=hM.grow uv;obtain⟨gq,Zw⟩:=az (gt (add q (l.take k)) dk.1:Nat);rw[<-Zw.out] at oI sv;have wK:∀w1,Grow wa w1->(Instr.lookup 225 (.map (some b)) (aX dk.1) false).run W w1=.ok (ae ah gq) w1:=λw1 H=>by have:=SMap.II Ry (hMa.grow H) dk.1 QL.1;rwa [BJ,<-Zw.out] at this
    have qC:∀w1:X,dz W 297 #[ae ah gq,ae ah dk.2] w1 λe O=>e=b5 (ae ah ((gq+dk.2:Nat):Int))∧w1=O:=λw1=>by have:=Dt w1 gq dk.2 ap ap;rwa [aA sv] at this
    clear fu Kz hM;go_wp2_with fail;rw[<-HA.out,<-HX.out];have e0:=λw1(H:Grow wa w1)=>(Mw.grow H).cell 0;have e1:=λw1(H:Grow wa w1)=>(pL.grow H).cell 0;have e2:=λw1(H:Grow wa w1)=>(pL.grow H).cell 1;refine jo 16 λw1 H=>?_;clear e0 e1 e2 wK qC;obtain⟨w5,Cx,Zx,ra⟩:=Du (hMa.grow H) QL.1 sv fj;rw[<-oI] at Zx;rw[Int.natCast_add] at Cx;have hjj:=hj.trans ((dM.dK (V:=λc=>c=b) (uv.trans H)).trans ra);go_wp2_with fail;go_roundw;case rel=>exact⟨k+1,by omega,by go_num,Zx,hjj⟩
    case measure=>simp[intOf];omega
   ·obtain rfl:k=n:=by omega
    have hkt:decide ((k:Int)<(k:Int))=false:=aD ap;rw[bH ap] at hM;go_wp2;go_ret;exact⟨rfl,⟨.inl I,NB G (λd Iv=>(hd d Iv).1) gC,b,.inl L,h4,Qk,hM⟩,(dM.dK eD).trans (hj.imp λc E=>by rw[E];exact L)⟩
 ·rw[Md he]
  have heb:(abl != 0)=true:=by simpa using he
  go_in;go_wp2_with fail;refine hm.mono ?_;rintro e w1 ⟨rfl,eD⟩;have hS:=ej w1 eD;clear hm Mc Md ej;go_wp2;go_ret;exact⟨rfl,hS.wide λb hb => .inl hb,dM.dK eD⟩
end Go.Proofs.YtpeepcmdehhbgaaGreatDoor.abk
