/- Ap4. -/
import Derived.Test.YtpeepcmdehhbgaaGreatDoorJs38
set_option linter.all false
set_option maxRecDepth 100000
set_option maxHeartbeats 2000000
open Go.Value renaming int->ae,slice->Z,string->aX,bool->aY,agg->aZ,tuple->a_
open Go.Ending renaming returned->b5
open Go.IntKind renaming i64->af,u64->ah
open Go (J az aE aA aB aC aD ay aj am ap aw aL aK aJ aI aH aV aU aT aR aQ aP aO aN)
open Go.Proofs.Tryz renaming prog->W
open Go.Lib renaming hid->Q
open List renaming length_append->bd,append_nil->bm,append_assoc->bp,length_singleton->bv,flatMap_cons->bJ,flatMap_append->bL,drop_eq_getElem_cons->bP,range->bV,flatMap_nil->cE,drop_of_length_le->cH,map_nil->cQ
open Nat renaming zero_le->bo
open Go renaming Value->K,World->X
namespace Go.Proofs.YtpeepcmdehhbgaaGreatDoor
open RowKit Hop V
def Ag.queued(x:Ag):List (Nat×Int):=(bV 4).flatMap λk=>(x.b.qu k).l.map λb=>(k,b.1)
theorem LQ(w:X)(D:aV)(p:vE)(x:Ag):Lw W D 48 #[.pointer (some ⟨p.a,0,none⟩)] (dR p x) (λ(u:K)e=>e=b5 u) (λu => .o (mW x.node u x.queued)::dR p x) w:=by
 obtain⟨abm,HT⟩:=az (x.queued);rw[<-HT.out];have Qp:∀(w:X)(k:Nat),k<4->(Instr.index 184 (aZ #[pz p.z 0,pz p.z 1,pz p.z 2,pz p.z 3]) (J k)).run W w=.ok (.pointer (some ⟨p.z.getD k 0,0,none⟩)) w:=λw k N=>by
  have h4:k=0∨k=1∨k=2∨k=3:=by omega
  rcases h4 with rfl|rfl|rfl|rfl
  ·exact ix0 w p.z
  ·exact ix1 w p.z
  ·exact ix2 w p.z
  ·exact ix3 w p.z
 intro V hM hV;have fN:=St.begin_ hM (λb hb=>(hV b hb).1) (fB _ _);have ej:=fN.join (mW.framed x.node (Z none 0 0) []) (Grow.refl _) (U:=λ_=>False) Row.nil (λ_ h=>h.elim);obtain⟨hz,sl,cu,dX⟩:=iq.nH fN 1 rfl;have UU:w.cell? ⟨p.a,3,none⟩=some (.pointer (some ⟨p.st,0,none⟩)):=fN.facts.1.1 3;have hb:=(dX.front 4 rfl).facts.1.1;have q3:w.cell? ⟨p.st,3,none⟩=some (pz p.z 0):=hb 3;have q4:w.cell? ⟨p.st,4,none⟩=some (pz p.z 1):=hb 4;have q5:w.cell? ⟨p.st,5,none⟩=some (pz p.z 2):=hb 5;have q6:w.cell? ⟨p.st,6,none⟩=some (pz p.z 3):=hb 6;clear hb dX;go_in;go_wp2_with fail;clear UU q3 q4 q5 q6;go_loopw [3,15] (λu i wr=>∃(k:Nat)(out:List (Nat×Int)),i=J k∧(k<=4∧out.length<=16*k)∧out++((bV 4).drop k).flatMap (λk=>(x.b.qu k).l.map λb=>(k,b.1))=abm∧St V w (.o (mW x.node u out)::dR p x) wr) (λ_ i _=>4-(intOf i).toNat);case atStart=>exact⟨0,[],rfl,⟨bo _,bo _⟩,by rw[HT.out];rfl,ej⟩
 case round=>
  obtain⟨k,out,rfl,⟨j5,hol⟩,hT,hS⟩:=hrel;obtain⟨Ao,co,rfl,hco,Y_⟩:=fK.nW hS 0 rfl;by_cases N:k<4
  ·have dk:decide (k<4)=true:=aC N
   have Xm:=λw=>Qp w k N;rw[vl N,bJ,<-bp] at hT;obtain⟨fl,Xn⟩:=az ((x.b.qu k).l);rw[<-Xn.out] at hT;obtain⟨hz,sl,cu,dX⟩:=iq.nH hS 2 rfl;obtain⟨U,hQ,_⟩:=dX.own.see (k+8) (iD (show (_:List Bl)[k+8]?=some (.o (abo.eh (p.z.getD k 0) (x.b.qu k).l (x.b.qu k).k)) from lh hz.1 hz.2 N));have a0J:(x.b.qu k).l.length<=16:=abo.eh.le (show abo.eh (p.z.getD k 0) (x.b.qu k).l (x.b.qu k).k _ U from hQ);obtain⟨m,Hm⟩:=az ((x.b.qu k).l.length);have hAl:=abo.Wc _ _ _ _ _ hQ m Hm.out.symm;rw[<-Hm.out] at a0J;have Vm:fl.length=m:=by rw[Xn.out,Hm.out]
   obtain⟨g,Hg⟩:=az (p.z.getD k 0);simp only[<-Hg.out] at Xm hAl;rw[<-Xn.out] at hAl;clear hQ dX hz Qp;obtain⟨T2,HT2⟩:=az (out++fl.map λb=>(k,b.1));rw[<-HT2.out] at hT;replace hT:=Q hT;go_wp2_with fail;refine hAl.mono ?_;rintro e w3 ⟨A3,bs,rfl,UF,QP,ib⟩;have eO:=hS.join (mj.framed A3 m bs) ib (U:=New _ w3) UF (λb hb=>hb);go_wp2_with fail;go_loopw [3,22] (λu i wr=>∃(j:Nat)(jv:List (Nat×Int)),i=J j∧(j<=m∧jv.length<=16*k+j)∧jv++(fl.drop j).map (λb=>(k,b.1))=T2∧St V w (.o (mj A3 m bs)::.o (mW x.node u jv)::dR p x) wr) (λ_ i _=>m-(intOf i).toNat);case atStart=>exact⟨0,out,rfl,⟨bo _,by omega⟩,HT2.out.symm,eO⟩
   case round=>
    obtain⟨j,jv,rfl,⟨hjm,hol2⟩,EB,MC⟩:=hrel;obtain⟨A4,c4,rfl,q_,a5s⟩:=fK.nW MC 1 rfl;by_cases hj:j<m
    ·have dj:decide (j<m)=true:=aC hj
     obtain⟨U,hU,_⟩:=MC.own.see 0 rfl;have hU:abo.lW _ U U A3 m bs:=hU;obtain⟨ad,TW,rfl,_,_,e0,e1⟩:=hU.row.mr ap abo.nz hj;have e0:=e0 _ rfl;have e1:=e1 0 _ rfl;have hjf:j<fl.length:=by omega
     have Z7:fl[j]=(bs[j]).abs:=by simp[<-QP]
     rw[bP hjf,Z7] at EB;generalize bs[j]=b at e0 e1 EB;obtain⟨sq,Ab,mb,cb,ds⟩:=b;dsimp only[abo.iE.cells,abo.iE.abs] at e0 e1 EB;obtain⟨y9,wa,HY9,UN,mh⟩:=MC.new' #[J sq,Z Ab mb cb] 196;clear hU Z7;replace EB:=Q EB;go_wp2_with fail;rw[<-UN.out,<-HY9.out];have eW:=mh.grow (Grow.refl _).drew;have gD:∀(l:List Bl)(O:X),St V w (.c y9 196 #[J sq,Z Ab mb cb]::.o (mj (some ad) m bs)::.o (mW x.node (Z A4 jv.length c4) jv)::dR p x) O->O.cell? ⟨p.a,0,none⟩=some (J x.node)∧O.cell? ⟨y9,0,none⟩=some (J sq):=λl O h=>⟨(h.front 3 rfl).facts.1.1 0,h.facts.1.1 0⟩;have eA:=gD [] _ eW;refine dJ rfl ?_;refine fC (λO=>O.cell? ⟨p.a,0,none⟩=some (J x.node)∧O.cell? ⟨y9,0,none⟩=some (J sq)) [11] 12 rfl [0,1,2,3,4,5,6,7,8] ?_;iterate 9 (refine eV rfl eA (λw1 ⟨I,G⟩=>aM) ?_)
     refine eZ 9 [] rfl ?_;obtain⟨EC,wb,SX,SY,yV⟩:=mh.new' #[J x.node,J k,J sq] 37;go_wp2_with fail;rw[<-SY.out,<-SX.out];have yV:=yV.grow (Grow.refl _).drew;refine⟨λ_=>gD [] _ (yV.dO 0 rfl),?_⟩;refine eZ 10 [] rfl ?_;refine g_ Wp rfl (.tmp 26) (.tmp 35) rfl rfl (yV.front 3 rfl) (A:=some ⟨EC,0,none⟩) (m:=1) (c:=1) (news:=[J x.node,J k,J sq]) rfl (In.reads ((yV.blk 0 rfl).jL (size:=3) (n:=1) rfl)) (by simp[Value.oneCell']) ap ?_;intro v' w9 ll;have nm:=(ll.dO 1 rfl);refine wpList_nil ⟨λ_=>⟨(nm.front 3 rfl).facts.1.1 0,(nm.front 1 rfl).facts.1.1 0⟩,?_⟩;refine fY 11 rfl aw ?_;have C6:=(nm.dO 1 rfl).front 1 rfl;clear nm ll yV eW mh eA gD;go_wp2_with fail;refine⟨⟨j+1,jv++[(k,sq)],by go_num,⟨by omega,by rw[bd,bv];omega⟩,?_,C6.cast ?_⟩,by simp[intOf];omega⟩;·rw[<-EB.out];simp
     ·unfold mW
      rw[bd,bL];rfl
    ·have dj:decide (j<m)=false:=aD hj
     rw[show fl.drop j=[] from cH ap,cQ,bm] at EB;have uO:=hT.out;rw[<-EB] at uO;replace uO:=Q uO;have fD:=MC.dO 0 rfl;go_wp2_with fail;exact⟨⟨k+1,jv,by go_num,⟨by omega,by omega⟩,uO.out,fD⟩,by simp[intOf];omega⟩
  ·have Xq:k=4:=by omega
   subst Xq;rw[show (bV 4).drop 4=[] from rfl,cE,bm] at hT;replace hT:=Q hT;go_wp2;go_ret;rw[<-hT.out];obtain⟨r1,r2⟩:=hS.fin;exact⟨_,rfl,r1,r2⟩
end Go.Proofs.YtpeepcmdehhbgaaGreatDoor
