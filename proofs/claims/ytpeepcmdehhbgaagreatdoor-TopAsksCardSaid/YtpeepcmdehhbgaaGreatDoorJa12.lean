import Derived.Test.YtpeepcmdehhbgaaGreatDoorJa11
set_option linter.all false
set_option maxRecDepth 100000
open Go.Value renaming int->ae,slice->Z,string->aX,bool->aY,agg->aZ,tuple->a_
open Go.Ending renaming returned->b5
open Go.IntKind renaming i64->af,u64->ah
open Go.Proofs.Tryz renaming prog->W
open List renaming length_append->bd,perm_append_comm->bg,append_nil->bm,length_take->bn,append_assoc->bp,length_singleton->bv,length_cons->bD,map_append->bI,length_drop->bO,mem_cons_of_mem->bR,range->bV,mem_of_mem_take->bW,mem_cons_self->cj,not_mem_nil->cF,mem_cons->cI,drop_eq_nil_of_le->cR,mem_of_mem_drop->cX,take_append_drop->dt,length_map->bj,eq_nil_of_length_eq_zero->bu,take_of_length_le->bH,nil_append->ch,length_nil->cx,map_congr_left->cO,replicate->cS,take_length->dq
open Nat renaming zero_le->bo,le_trans->bB,min_eq_left->cz,le_refl->bh
open Int renaming toNat_natCast->cA
open Go renaming World->X,Calls->dz,Addr->dA
open Go (J az aE aA aB aC aD ay aj am ap aw aL aK aJ aI aH aV aU aT aR aQ aP aO aN)
section
open Go.Proofs.YtpeepcmdehhbgaaGreatDoor (Dl En WS j4)
variable{n abm Bd B c j k g a b M nd rp a' b' i m abq:Nat}{es:List En}{ms:j4}{d:Dl}{p:WS}
namespace Go.Proofs.YtpeepcmdehhbgaaGreatDoor
open RowKit Hop V
structure abD(nd rp:Nat)(a:Ag)(n:Nat)(eP:List Dl)(q:List abo.Ab)(tr:List (lp×(Nat×Nat)))(ask:List (Int×lp))(B:Nat):Prop where
 node:a.node=nd
 eX:a.eX=rp
 last:a.last=0
 ep:a.b.ep=1
 eP:a.b.eP=eP
 sh:a.b.sh=1
 q:a.b.q=[⟨q,(n:Int)⟩,⟨[],0⟩,⟨[],0⟩,⟨[],0⟩]
 tr:a.tr=tr
 ask:a.ask=ask
 bs:a.bs.length<=B
def idG(nd n:Nat):lp:=((nd:Int),0,(n:Int))
def enG(nd n:Nat)(d:Dl)(tg:Nat):En:=⟨1,(nd:Int),0,(n:Int),1,[d],⟨#[]⟩,(nd:Int),(tg:Int)⟩
namespace abD
variable{a:Ag}{eP:List Dl}{q:List abo.Ab}{tr:List (lp×(Nat×Nat))}{ask:List (Int×lp)}
theorem mono{B':Nat}(h:abD nd rp a n eP q tr ask B)(hB:B<=B'):abD nd rp a n eP q tr ask B':=⟨h.node,h.eX,h.last,h.ep,h.eP,h.sh,h.q,h.tr,h.ask,bB h.bs hB⟩
theorem fX(h:abD nd rp a n eP q tr ask B)(hB:B<=1000000){d:Dl}(hd:DS d)(hm:iV eP d=0):abD nd rp (a.fX d).1 n (eP++[d]) q tr ask (B+100)∧(a.fX d).2=0:=by
 obtain⟨r1,r2⟩:=wn (a:=a) h.bs hB (TD hd);have e:a.fX d=({ a with b:={ a.b with eP:=a.b.eP++[d] },rs:=a.rs++[.eP d] },0):=by unfold Ag.fX;rw[aB (by rw[h.eP];omega),aB ap]
 rw[e];exact⟨⟨h.node,h.eX,h.last,h.ep,by show a.b.eP++[d]=_;rw[h.eP],h.sh,h.q,h.tr,h.ask,r2⟩,rfl⟩
theorem Q2(h:abD nd rp a n eP q tr ask B):a.b.qu 0=⟨q,(n:Int)⟩:=by unfold Bk.qu;rw[h.q];rfl
theorem XM(h:abD nd rp a n eP q tr ask B)(N:k=1∨k=2∨k=3):(a.b.qu k).l=[]:=by unfold Bk.qu;rw[h.q];rcases N with rfl|rfl|rfl<;>rfl
theorem cut(h:abD nd rp a n eP [] tr ask B)(hB:B<=1000000)(hn:n<1000000){d:Dl}(hd:DS d)(hj:pE eP=[d])(o5:∀x∈eP,x.1=d.1):abD nd rp a.cut.1 (n+1) [] [(((n+1:Nat):Int),[d])] tr ask (B+100)∧a.cut.2=[(0,((n+1:Nat):Int))]:=by
 obtain⟨r1,r2⟩:=wn (a:=a) (r := .pH 0 (n+1) [d]) h.bs hB (TF hd ap);have tY:a.jI 0=[d]:=by unfold Ag.jI;rw[h.sh,h.eP,<-hj];congr 1;rw[List.filter_eq_self];intro x _;exact aC (TC x.1)
 have Bh:a.pH 0 [d]=.pH 0 (n+1) [d]:=by unfold Ag.pH;rw[h.Q2];rfl
 obtain⟨y,HY⟩:=az ({ a with b:=a.b.add 0 ((a.b.qu 0).k+1) [d],rs:=a.rs++[a.pH 0 [d]] });have kM:a.kx 0 [d]=some y:=by rw[HY.out];unfold Ag.kx;rw[aB];rw[h.Q2,Bh];show ¬ (16<=0∨(n:Int)=9223372036854775807∨a.i6 (.pH 0 (n+1) [d])≠0);omega
 have qC:a.b.add 0 ((a.b.qu 0).k+1) [d]={ a.b with eP:=[],q:=[⟨[(((n+1:Nat):Int),[d])],((n+1:Nat):Int)⟩,⟨[],0⟩,⟨[],0⟩,⟨[],0⟩],cuts:=a.b.cuts++[((0:Int),((n+1:Nat):Int))] }:=by
  unfold Bk.add;rw[h.Q2,aA (by show abo.uB [] (n:Int) ((n:Int)+1) 1=0;unfold abo.uB;rw[aB ap,aB ap,aB am,aB am,aB am])]
  have:a.b.eP.filter (λz => !Mn [d] z)=[]:=by rw[List.filter_eq_nil_iff,h.eP];intro z hz;unfold Mn;simp[o5 z hz]
  rw[this,h.q];rfl
 have hK:a.kg 0=(y,[((n+1:Nat):Int)],true):=by
  unfold Ag.kg;rw[tY];show (if [d]=[] then _ else match a.kx 0 ([d].take 8) with|none=>_|some y=>_)=_;rw[aB (by simp)];have:[d].take 8=[d]:=rfl;rw[this,kM];show (y,(y.b.qu 0).k::[],true)=_;have:(y.b.qu 0).k=((n+1:Nat):Int):=by rw[HY.out];dsimp only;rw[qC];rfl
  rw[this]
 have hA:a.ey (bV a.b.sh)=(y,[(0,((n+1:Nat):Int))]):=by rw[h.sh];show (if (a.kg 0).2.2=true then _ else _)=_;rw[hK,aA rfl];rfl
 have Mh:a.cut=(y.sync,[(0,((n+1:Nat):Int))]):=by unfold Ag.cut;rw[hA,aB (by simp)]
 rw[Mh];refine⟨?_,rfl⟩;rw[HY.out];unfold Ag.sync;refine⟨h.node,h.eX,h.last,?_,?_,?_,?_,h.tr,h.ask,?_⟩;·show (a.b.add 0 _ [d]).ep=1;rw[qC];exact h.ep
 ·show (a.b.add 0 _ [d]).eP=[];rw[qC]
 ·show (a.b.add 0 _ [d]).sh=1;rw[qC];exact h.sh
 ·show (a.b.add 0 _ [d]).q=_;rw[qC]
 ·show (rm (a.rs++[a.pH 0 [d]])).length<=_;rw[Bh];exact r2
end abD
namespace abD
variable{a:Ag}{eP:List Dl}{q:List abo.Ab}{tr:List (lp×(Nat×Nat))}{ask:List (Int×lp)}{ds:List Dl}{t:Nat×Nat}
theorem tick(h:abD nd rp a n eP [((n:Int),ds)] [] [] B){ds':Dl}(tS:ds=[ds']):∃t,abD nd rp (a.f_ 1 []).1 n eP [((n:Int),[ds'])] [(idG nd n,t)] [(((a.tag+1:Nat):Int),idG nd n)] B∧(a.f_ 1 []).2=[(0,gp (enG nd n ds' (a.tag+1)))]:=by
 subst tS;obtain⟨b,HB⟩:=az (({ a with now:=a.now+1 }:Ag));have yU:(b.b.qu 0).l.take 4=[((n:Int),[ds'])]:=by rw[HB.out];show (a.b.qu 0).l.take 4=_;rw[h.Q2];rfl
 have hid:b.iX 0 (n:Int)=idG nd n:=by rw[HB.out];show ((a.node:Int),((0:Nat):Int),(n:Int))=_;rw[h.node];rfl
 have Vo:b.tries (idG nd n)=(0,0):=by rw[HB.out];show (qR a.tr (idG nd n)).getD (0,0)=_;rw[h.tr];rfl
 have hE:b.tI (idG nd n) [ds']=enG nd n ds' (a.tag+1):=by rw[HB.out];show (⟨1,(nd:Int),0,(n:Int),a.b.ep,[ds'],⟨#[]⟩,(a.node:Int),((a.tag+1:Nat):Int)⟩:En)=_;rw[h.ep,h.node];rfl
 have Fu:b.to 0=0:=by rw[HB.out];show (a.last+0) % a.eX=0;rw[h.last];exact Nat.zero_mod _
 obtain⟨c,HC⟩:=az (b.send (idG nd n) (0,0));have ky:Ag.ff 0 [((n:Int),[ds'])] b []=(c,[(0,gp (enG nd n ds' (a.tag+1)))]):=by show (if (b.tries (b.iX 0 (n:Int))).1=0∨_ then _ else _)=_;rw[hid,Vo,aA (.inl rfl)];show (b.send (idG nd n) (0,0),[]++[(((b.to 0:Nat):Int),gp (b.tI (idG nd n) [ds']))])=_;rw[Fu,hE,HC.out];rfl
 have Fl:c.b=a.b:=by rw[HC.out,HB.out];rfl
 have kS:∀k,k=1∨k=2∨k=3->(c.b.qu k).l.take 4=[]:=λk N=>by rw[Fl,h.XM N];rfl
 have Ir:a.f_ 1 []=(c,[(0,gp (enG nd n ds' (a.tag+1)))]):=by
  show Ag.f_ 0 (Ag.fZ [0,1,2,3] { a with now:=a.now+1 } []).1 (Ag.fZ [0,1,2,3] { a with now:=a.now+1 } []).2=_;rw[<-HB.out];have:Ag.fZ [0,1,2,3] b []=(c,[(0,gp (enG nd n ds' (a.tag+1)))]):=by show Ag.fZ [1,2,3] (Ag.ff 0 ((b.b.qu 0).l.take 4) b []).1 (Ag.ff 0 ((b.b.qu 0).l.take 4) b []).2=_;rw[yU,ky];show Ag.fZ [2,3] (Ag.ff 1 ((c.b.qu 1).l.take 4) c _).1 (Ag.ff 1 ((c.b.qu 1).l.take 4) c _).2=_;rw[kS 1 (by simp)];show Ag.fZ [3] (Ag.ff 2 ((c.b.qu 2).l.take 4) c _).1 (Ag.ff 2 ((c.b.qu 2).l.take 4) c _).2=_;rw[kS 2 (by simp)];show Ag.fZ [] (Ag.ff 3 ((c.b.qu 3).l.take 4) c _).1 (Ag.ff 3 ((c.b.qu 3).l.take 4) c _).2=_;rw[kS 3 (by simp)];rfl
  rw[this];rfl
 rw[Ir];refine⟨(0+1,b.now+rD (b.tag+1) 0),⟨?_,?_,?_,?_,?_,?_,?_,?_,?_,?_⟩,rfl⟩;·rw[HC.out,HB.out];exact h.node
 ·rw[HC.out,HB.out];exact h.eX
 ·rw[HC.out,HB.out];exact h.last
 ·show c.b.ep=1;rw[Fl];exact h.ep
 ·show c.b.eP=_;rw[Fl];exact h.eP
 ·show c.b.sh=1;rw[Fl];exact h.sh
 ·show c.b.q=_;rw[Fl];exact h.q
 ·rw[HC.out]
  show si b.tr (idG nd n) _=_;have:b.tr=[]:=by rw[HB.out];exact h.tr
  rw[this];rfl
 ·rw[HC.out]
  show si b.ask ((b.tag+1:Nat):Int) (idG nd n)=_;have:b.ask=[]:=by rw[HB.out];exact h.ask
  rw[this,HB.out];rfl
 ·rw[HC.out,HB.out];exact h.bs
theorem done(h:abD nd rp a n eP [((n:Int),ds)] [(idG nd n,t)] [(((g:Nat):Int),idG nd n)] B)(pJ:1<=nd)(oK:1<=n)(hn:n<1000000)(hB:B<=1000000){code:Nat}(E:code=1∨code=2∨code=3):abD nd rp (a.took 0 g code) n eP [] [] [] (B+100):=by
 obtain⟨r1,r2⟩:=wn (a:=a) (r := .dn 0 n) h.bs hB (Q1 ap);have tY:a.jw g=idG nd n:=by unfold Ag.jw;rw[h.ask];unfold qR;simp
 have jT:idG nd n≠(0,0,0):=λe=>by have:(nd:Int)=0:=congrArg (·.1) e;omega
 have h6:code≠6:=by omega
 have Fu:a.took 0 g code=Ag.fin { a with ask:=gV a.ask (g:Int),last:=0 } nd 0 n:=by unfold Ag.took;dsimp only;rw[tY,aB jT,aB h6,aA E];rfl
 rw[Fu];have Cx:Ag.put { a with ask:=gV a.ask (g:Int),last:=0 } (.dn 0 n)={ a with ask:=gV a.ask (g:Int),last:=0,rs:=a.rs++[.dn 0 n] }:=by unfold Ag.put;exact aA r1
 unfold Ag.fin;rw[Cx];have pK:abo.p_ (a.b.qu 0).l (n:Int)=[]:=by rw[h.Q2];unfold abo.p_ abo.t6;simp
 refine⟨h.node,h.eX,rfl,h.ep,h.eP,h.sh,?_,?_,?_,r2⟩
 ·show a.b.q.set 0 ⟨abo.p_ (a.b.qu 0).l (n:Int),(a.b.qu 0).k⟩=_
  rw[pK,h.Q2,h.q];rfl
 ·show gV a.tr ((nd:Int),(0:Int),(n:Int))=_
  rw[h.tr];unfold gV idG;simp
 ·show vH (gV a.ask (g:Int)) _=_
  rw[h.ask];unfold gV;simp[vH]
theorem look(h:abD nd rp a n eP q tr [] B){s:aR}(hp:abn.fW s=0):abD nd rp (a.look s).1 n eP q tr [(((a.tag+1:Nat):Int),(0,0,0))] B:=by
 have e:(a.look s).1=a.next (0,0,0):=by unfold Ag.look;rw[aB ap]
 rw[e];exact⟨h.node,h.eX,h.last,h.ep,h.eP,h.sh,h.q,h.tr,by show si a.ask _ _=_;rw[h.ask];rfl,h.bs⟩
theorem seen(h:abD nd rp a n eP q tr [(((g:Nat):Int),(0,0,0))] B):abD nd rp (a.took 0 g 8) n eP q tr [] B:=by
 have tY:a.jw g=(0,0,0):=by unfold Ag.jw;rw[h.ask];unfold qR;simp
 have Fu:a.took 0 g 8={ a with ask:=gV a.ask (g:Int),last:=0 }:=by unfold Ag.took;dsimp only;rw[tY,aA rfl,aB (by simp)];rfl
 rw[Fu];refine⟨h.node,h.eX,rfl,h.ep,h.eP,h.sh,h.q,h.tr,?_,h.bs⟩;show gV a.ask (g:Int)=_;rw[h.ask];unfold gV;simp
end abD
theorem abD.new(nd rp:Nat):abD nd rp (Ag.new nd rp [] 1) 0 [] [] [] [] 100:=by refine⟨rfl,rfl,rfl,rfl,rfl,rfl,rfl,rfl,rfl,?_⟩;show (frame (Rc.ep 1).B++[]).length<=_;rw[bm];have I:=Ik (n:=1) am;have:=lu (b:=(Rc.ep 1).B) ap;omega
def abE(m:j4)(l:List En):j4:=l.foldl (λx e=>(ei x e).2.2) m
theorem ac1(m:j4)(l k:List En):abE m (l++k)=abE (abE m l) k:=List.foldl_append
def ac2:j4->List En->Sends
 | _,[]=>[]
 | m,e::l=>(e.fr,fx e.tg (ei m e).1 (ei m e).2.1)::ac2 (ei m e).2.2 l
theorem acX:∀(l:List En)(k:Nat)(m:j4)(out:List Sd),(CJ true 0 l k m out).1=abE m l∧(CJ true 0 l k m out).2.map Sd.fn=out.map Sd.fn++ac2 m l
 | [],k,m,out=>⟨rfl,by simp[CJ,ac2]⟩
 | e::l,k,m,out=>by
   have h:=acX l (k+1) (ei m e).2.2 (out++[rk e.fr e.tg (ei m e).1 (ei m e).2.1]);have e1:CJ true 0 (e::l) k m out=CJ true 0 l (k+1) (ei m e).2.2 (out++[rk e.fr e.tg (ei m e).1 (ei m e).2.1]):=by rw[CJ];rw[aC (bo k)];rfl
   rw[e1];refine⟨h.1,?_⟩;rw[h.2,bI,bp];rfl
theorem ack{a b c:Int}(I:a<=b)(G:b<=c){l:aN}(hp:l.Perm [a,b,c]):pB l=[a,b,c]:=by
 refine List.Perm.eq_of_pairwise (le:=λx y:Int=>x<=y) (λx y _ _ I G=>Int.le_antisymm I G) ?_ ?_ ((xq l).trans hp);·exact (List.pairwise_mergeSort (le:=λx y:Int=>decide (x<=y)) (λx y z I G=>by simp at *;omega) (λx y=>by simp;omega) l).imp λh=>of_decide_eq_true h
 ·simp;omega
theorem ac4{l:Nat}(ha:a<=l)(hb:b<=l)(r:aN):most 3 ((l:Int)::(a:Int)::(b:Int)::r)=((max a b:Nat):Int):=by
 unfold most;show (pB [(l:Int),(a:Int),(b:Int)]).getD 1 0=_;rcases Nat.le_total a b with h|h
 ·rw[ack (a:=a) (b:=b) (c:=l) (l:=[(l:Int),(a:Int),(b:Int)]) ap ap ((bg (l₁:=[(l:Int)]) (l₂:=[(a:Int),(b:Int)])))]
  show (b:Int)=_;omega
 ·rw[ack (a:=b) (b:=a) (c:=l) (l:=[(l:Int),(a:Int),(b:Int)]) ap ap ((bg (l₁:=[(l:Int)]) (l₂:=[(a:Int),(b:Int)])).trans (List.Perm.swap _ _ _))]
  show (a:Int)=_;omega
def ac3(l a b:Nat):List Int:=[(l:Int),(a:Int),(b:Int),0,0,0,0,0]
structure abI(x:Rp)(es:List En)(a b abm Bd:Nat):Prop where
 node:x.node=0
 nodes:x.nodes=3
 T1:1<=abm∧abm<=1000000
 c:x.s.c=⟨abm,abm,es⟩
 m:x.m=abE j4.new (es.take (max a b))
 commit:x.commit=max a b
 leads:x.leads=true
 own:x.own=0
 v:∃v,x.v=some v∧v.t=abm∧v.nodes=3∧v.ac=ac3 es.length a b
 ab:a<=es.length∧b<=es.length
 bs:x.s.bs.length<=Bd
 ok:∀e∈es,M8 e
structure abT(x:Rp)(i:Nat)(row:List En)(abm Bd:Nat):Prop where
 node:x.node=i
 nodes:x.nodes=3
 c:x.s.c=⟨abm,abm,row⟩
 leads:x.leads=false
 v:x.v=none
 bs:x.s.bs.length<=Bd
 ok:∀e∈row,M8 e
theorem abI.ask{x:Rp}{es:List En}{a b abm Bd:Nat}(h:abI x es a b abm Bd)(pL:Bd<=1000000)(hn:es.length<=50){f:Int}{e:En}(he:M8 { e with fr:=f }):abI (x.ask f e).1 (es++[{ e with fr:=f }]) a b abm (Bd+18000)∧(x.ask f e).2=[(1,kR abm (es++[{ e with fr:=f }]) (max a b)),(2,kR abm (es++[{ e with fr:=f }]) (max a b))]:=by
 obtain⟨v,hv,v1,v2,v3⟩:=h.v;have hf:0<=f∧f<8:=he.1.1.1;have CP:x.s.c.es=es:=by rw[h.c]
 have gC:∀z∈es++[{ e with fr:=f }],M8 z:=λz hz=>by
  rcases List.mem_append.1 hz with hz|hz
  ·exact h.ok z hz
  ·rw[List.mem_singleton.1 hz];exact he
 have Be:(es++[{ e with fr:=f }]).length=es.length+1:=by rw[bd,bv]
 have j9:(es++[{ e with fr:=f }]).take (max a b)=es.take (max a b):=List.take_append_of_le_length (by have:=h.ab;omega);have hw:=tP gC ap (t:=abm) (h':=abm) (by have:=h.T1;omega) (by have:=h.T1;omega);obtain⟨es',HE⟩:=az (es++[{ e with fr:=f }]);have a6F:x.s.c.es++[{ e with fr:=f }]=es':=by rw[CP,HE.out]
 rw[<-HE.out] at hw Be gC j9 ⊢;have hB:Wo.B ⟨abm,abm,es'⟩=nC abm abm es':=rfl;have qX:=lu (b:=nC abm abm es') ap;have QP:=h.bs;have N:=qA (s:=x.s) (y:=⟨abm,abm,es'⟩) (by rw[hB];omega) (by rw[hB];omega);have hac:x.s.accept v.t (x.s.c.es++[{ e with fr:=f }])=some ⟨x.s.ws++[⟨abm,abm,es'⟩]⟩:=by rw[a6F];unfold Vs.accept Vs.next;rw[v1,h.c];dsimp only;have:=h.T1;rw[aB ap,aB ap,aA ap];exact N
 have a5M:x.ask f e=Rp.told { x with s:=⟨x.s.ws++[⟨abm,abm,es'⟩]⟩ } v:=by unfold Rp.ask;rw[h.leads,hv];dsimp only;rw[aB (by rw[CP];omega),hac]
 have E:(Vs.mk (x.s.ws++[⟨abm,abm,es'⟩])).c=⟨abm,abm,es'⟩:=Vs.m7 _ _;have hN:(v.accepted x.node es'.length).1.toNat=max a b:=by show (most v.nodes (v.ac.set x.node (max (v.ac.getD x.node 0) (es'.length:Int)))).toNat=_;rw[h.node,v2,v3];show (most 3 ((max ((es.length:Nat):Int) ((es'.length:Nat):Int))::(a:Int)::(b:Int)::[0,0,0,0,0])).toNat=_;rw[show max ((es.length:Nat):Int) ((es'.length:Nat):Int)=((es'.length:Nat):Int) by omega,ac4 (by have:=h.ab;omega) (by have:=h.ab;omega)];omega
 have Fh:Rp.counted { x with s:=⟨x.s.ws++[⟨abm,abm,es'⟩]⟩ } v x.node es'.length=({ x with s:=⟨x.s.ws++[⟨abm,abm,es'⟩]⟩,v:=some (v.told x.node es'.length) },[]):=by unfold Rp.counted;rw[hN];unfold Rp.apply;dsimp only;rw[E];dsimp only;rw[h.commit,cR (by rw[bn];omega),show max (max a b) (min (max a b) es'.length)=max a b by omega];simp[CJ,h.commit]
 have ht:Rp.told { x with s:=⟨x.s.ws++[⟨abm,abm,es'⟩]⟩ } v=({ x with s:=⟨x.s.ws++[⟨abm,abm,es'⟩]⟩,v:=some (v.told x.node es'.length) },[(1,kR abm es' (max a b)),(2,kR abm es' (max a b))]):=by
  unfold Rp.told;dsimp only;rw[E];dsimp only;rw[Fh];have:Rp.accepts { x with s:=⟨x.s.ws++[⟨abm,abm,es'⟩]⟩,v:=some (v.told x.node es'.length) }=[(1,kR abm es' (max a b)),(2,kR abm es' (max a b))]:=by unfold Rp.accepts;dsimp only;rw[h.node,h.nodes,E,h.commit];rfl
  rw[this];rfl
 rw[a5M,ht];refine⟨⟨h.node,h.nodes,h.T1,E,by rw[j9];exact h.m,h.commit,h.leads,h.own,⟨_,rfl,v1,v2,?_⟩,by have:=h.ab;omega,?_,gC⟩,rfl⟩
 ·show v.ac.set x.node (max (v.ac.getD x.node 0) (es'.length:Int))=_
  rw[h.node,v3];show (max ((es.length:Nat):Int) ((es'.length:Nat):Int))::_=_;rw[show max ((es.length:Nat):Int) ((es'.length:Nat):Int)=((es'.length:Nat):Int) by omega];rfl
 ·rw[Cq,bd,hB]
  have:(ye x.s.ws).length<=Bd:=QP;omega
theorem abI.Mq{x:Rp}(h:abI x es a b abm Bd){F:Nat}(hF:F=1∨F=2)(hn:n<=es.length)(ha:a'=if F=1 then max a n else a)(hb:b'=if F=2 then max b n else b):abI (mV x F abm n).1 es a' b' abm Bd∧(mV x F abm n).2=ac2 (abE j4.new (es.take (max a b))) ((es.take (max a' b')).drop (max a b)):=by
 obtain⟨v,hv,v1,v2,v3⟩:=h.v;have YV:=h.ab;have hac:v.ac.set F (max (v.ac.getD F 0) (n:Int))=ac3 es.length a' b':=by
  rw[v3];rcases hF with rfl|rfl
  ·rw[ha,hb,aA rfl,aB am]
   show [((es.length:Nat):Int),max (a:Int) (n:Int),(b:Int),0,0,0,0,0]=_;rw[show max (a:Int) (n:Int)=((max a n:Nat):Int) by omega];rfl
  ·rw[ha,hb,aB am,aA rfl]
   show [((es.length:Nat):Int),(a:Int),max (b:Int) (n:Int),0,0,0,0,0]=_;rw[show max (b:Int) (n:Int)=((max b n:Nat):Int) by omega];rfl
 have adD:a'<=es.length∧b'<=es.length:=by rw[ha,hb];split<;>split<;>omega
 have Bb:max a b<=max a' b':=by rw[ha,hb];split<;>split<;>omega
 have hN:(v.accepted F n).1.toNat=max a' b':=by show (most v.nodes (v.ac.set F (max (v.ac.getD F 0) (n:Int)))).toNat=_;rw[hac,v2];unfold ac3;rw[ac4 adD.1 adD.2];omega
 have e1:mV x F abm n=x.counted v F n:=by unfold mV;rw[aA h.leads,hv];exact aA v1
 have Ub:=acX ((es.take (max a' b')).drop (max a b)) (max a b) (abE j4.new (es.take (max a b))) [];have CP:x.s.c.es=es:=by rw[h.c]
 have e2:x.counted v F n=({ x with v:=some (v.told F n),m:=abE (abE j4.new (es.take (max a b))) ((es.take (max a' b')).drop (max a b)),commit:=max a' b' },ac2 (abE j4.new (es.take (max a b))) ((es.take (max a' b')).drop (max a b))):=by unfold Rp.counted;rw[hN];unfold Rp.apply;dsimp only;rw[CP,h.commit,h.leads,h.own,h.m,Ub.1,Ub.2,show max (max a b) (min (max a' b') es.length)=max a' b' by omega];rfl
 rw[e1,e2];refine⟨⟨h.node,h.nodes,h.T1,h.c,?_,rfl,h.leads,h.own,⟨_,rfl,v1,v2,hac⟩,adD,h.bs,h.ok⟩,rfl⟩;show abE (abE j4.new (es.take (max a b))) ((es.take (max a' b')).drop (max a b))=_;rw[<-ac1];congr 1;have:=dt (max a b) (es.take (max a' b'));rw[List.take_take,cz Bb] at this;exact this
theorem abT.acc{x:Rp}{row:List En}(h:abT x i row abm Bd)(hT:1<=abm∧abm<=1000000)(pL:Bd<=1000000){l:List En}(hl:l.length<=51)(gC:∀e∈l,M8 e)(f:Int)(cm:Nat){row':List En}(hr:row'=if row.length<l.length then l else row):abT (x.accept f abm l cm).1 i row' abm (Bd+18000)∧(x.accept f abm l cm).2=[(f,m8 abm row'.length)]:=by
 have QP:=h.bs;by_cases fS:row.length<l.length
 ·rw[aA fS] at hr
  have hw:=tP gC hl (t:=abm) (h':=abm) ap ap;have hB:Wo.B ⟨abm,abm,l⟩=nC abm abm l:=rfl;have qX:=lu (b:=nC abm abm l) ap;have N:=qA (s:=x.s) (y:=⟨abm,abm,l⟩) (by rw[hB];omega) (by rw[hB];omega);have hac:x.s.accept abm l=some ⟨x.s.ws++[⟨abm,abm,l⟩]⟩:=by unfold Vs.accept Vs.next;rw[h.c];dsimp only;rw[aB ap,aB ap,aA (.inr fS)];exact N
  have E:(Vs.mk (x.s.ws++[⟨abm,abm,l⟩])).c=⟨abm,abm,l⟩:=Vs.m7 _ _;have e:x.accept f abm l cm=((Rp.apply { x with s:=⟨x.s.ws++[⟨abm,abm,l⟩]⟩ } cm).1,[(f,m8 abm l.length)]):=by unfold Rp.accept;rw[hac];dsimp only;rw[h.v,E];rfl
  rw[e,hr];refine⟨⟨h.node,h.nodes,E,h.leads,h.v,?_,gC⟩,rfl⟩;show (Vs.mk (x.s.ws++[⟨abm,abm,l⟩])).bs.length<=_;rw[Cq,bd,hB];have:(ye x.s.ws).length<=Bd:=QP;omega
 ·rw[aB fS] at hr
  have hac:x.s.accept abm l=some x.s:=by unfold Vs.accept;rw[h.c];dsimp only;rw[aB ap,aA ⟨by omega,rfl⟩]
  have e:x.accept f abm l cm=((Rp.apply x cm).1,[(f,m8 abm row.length)]):=by unfold Rp.accept;rw[hac];dsimp only;rw[aB (by rw[h.v];simp),h.c]
  rw[e,hr];exact⟨⟨h.node,h.nodes,h.c,h.leads,h.v,by show x.s.bs.length<=_;omega,h.ok⟩,rfl⟩
def goes(node:Nat)(l:Sends):List Lt3:=l.map λq=>(node,q.1.toNat,q.2)
theorem abJ(nn node:Nat):∀(l:Sends)(net:List Lt3),(∀q∈l,kX q.2=true∧0<=q.1∧q.1<nn)->net.length+l.length<=64->il nn node net l=net++goes node l
 | [],net,_,_=>by simp[il,goes]
 | (to,m)::l,net,h,hl=>by
   obtain⟨I,G,L⟩:=h (to,m) cj;rw[bD] at hl;have e:il nn node net ((to,m)::l)=il nn node (net++[(node,to.toNat,m)]) l:=by show il nn node (if kX m=true∧(0<=to∧to<nn)∧net.length<64 then net++[(node,to.toNat,m)] else net) l=_;rw[aA ⟨I,⟨G,L⟩,by omega⟩]
   rw[e,abJ nn node l _ (λq hq=>h q (bR _ hq)) (by rw[bd];simp;omega),bp];rfl
theorem acz{l:List En}(hl:l.length<=51)(gC:∀e∈l,M8 e)(hT:abm<=1000000)(E:c<=128):kX (kR abm l c)=true:=by
 have I:=eE (n:=abm) ap;have G:=eE (n:=c) ap;have L:=eE (n:=l.length) ap;have h4:=P_ gC;have e1:jj (kR abm l c)=[UInt8.ofNat 5]++enc abm++enc c++enc l.length++r_ l:=by unfold jj;rw[aB (show ¬ (kR abm l c).k=1 from (by decide:¬ (5:Int)=1)),aB (show ¬ (kR abm l c).k=2 from (by decide:¬ (5:Int)=2)),aB (show ¬ (kR abm l c).k=4 from (by decide:¬ (5:Int)=4)),aA (show (kR abm l c).k=5 from rfl)];rfl
 unfold kX;rw[e1];refine aC ?_;simp only[bd,bv];omega
theorem ac5(hT:abm<=1000000)(hn:n<=128):kX (m8 abm n)=true:=by
 have I:=eE (n:=abm) ap;have G:=eE (n:=n) ap;have e1:jj (m8 abm n)=[UInt8.ofNat 6]++enc abm++enc n:=by unfold jj;rw[aB (show ¬ (m8 abm n).k=1 from (by decide:¬ (6:Int)=1)),aB (show ¬ (m8 abm n).k=2 from (by decide:¬ (6:Int)=2)),aB (show ¬ (m8 abm n).k=4 from (by decide:¬ (6:Int)=4)),aB (show ¬ (m8 abm n).k=5 from (by decide:¬ (6:Int)=5)),aA (show (m8 abm n).k=6 from rfl)];rfl
 unfold kX;rw[e1];refine aC ?_;simp only[bd,bv];omega
theorem acA:∀(l:List En){m:j4},zr m.q->zr (abE m l).q
 | [],_,h=>h
 | e::l,_,h=>acA l (h.step e)
theorem ad2:zr j4.new.q:=λ_=>bo _
theorem acB:∀(l:List En)(m:j4),(ac2 m l).length=l.length
 | [],_=>rfl
 | e::l,m=>congrArg (·+1) (acB l _)
theorem acD:∀(l:List En)(m:j4),zr m.q->(∀e∈l,M8 e∧e.fr<6)->∀q∈ac2 m l,kX q.2=true∧0<=q.1∧q.1<(6:Nat)
 | [],_,_,_,q,hq=>by cases hq
 | e::l,m,hm,h,q,hq=>by
   rcases List.mem_cons.1 hq with rfl|hq
   ·obtain⟨I,G⟩:=h e cj
    obtain⟨c,E,lV,sy⟩:=LY hm e;obtain⟨t,ht,Ka⟩:=JE I.1;refine⟨?_,I.1.1.1.1,by show e.fr<_;omega⟩;show kX (fx e.tg (ei m e).1 (ei m e).2.1)=true;rw[ht,E];exact Q4 ap ap sy
   ·exact acD l _ (hm.step e) (λx Y=>h x (bR _ Y)) q hq
structure abA(x:Wl)(es:List En)(a b r1 r2 abm Bd:Nat):Prop where
 nr:x.nr=3
 na:x.na=3
 cut:x.cut=λ_=>false
 ld:abI (x.rp 0) es a b abm Bd
 f1:abT (x.rp 1) 1 (es.take r1) abm Bd
 f2:abT (x.rp 2) 2 (es.take r2) abm Bd
 abQ:r1<=es.length∧r2<=es.length
 fr:∀e∈es,e.fr<6
namespace abA
variable{x:Wl}{r1 r2:Nat}
theorem ad3(h:abA x es a b r1 r2 abm Bd){f:Nat}{m:Ms}(hi:x.net[i]?=some (f,j,m))(hj:j<3):x.kK i=({ Ev.zero with node:=(j:Int) },((x.del i).qv j ((x.rp j).recv (f:Int) m).1).send j ((x.rp j).recv (f:Int) m).2):=by unfold Wl.kK;rw[hi];show (if x.cut (f*8+j)=true then _ else if j<x.nr then _ else _)=_;rw[h.cut,aB (by simp),h.nr,aA hj]
theorem abU(h:abA x es a b r1 r2 abm Bd)(y:Rp){l:Sends}(hl:∀q∈l,kX q.2=true∧0<=q.1∧q.1<(6:Nat))(hn:(x.net.eraseIdx i).length+l.length<=64):(((x.del i).qv j y).send j l).net=x.net.eraseIdx i++goes j l:=by show il (x.nr+x.na) j (x.net.eraseIdx i) l=_;rw[h.nr,h.na];exact abJ 6 j l _ hl hn
theorem ad4(h:abA x es a b r1 r2 abm Bd){e:En}(hi:x.net[i]?=some (k,0,gp e))(N:k<6)(hf:e.fr=(k:Int))(a18:(x.net.eraseIdx i).length<=60)(pL:Bd<=1000000)(hn:es.length<=50)(he:M8 e):∃y,x.kK i=({ Ev.zero with node:=0 },y)∧abA y (es++[e]) a b r1 r2 abm (Bd+18000)∧y.net=x.net.eraseIdx i++[(0,1,kR abm (es++[e]) (max a b)),(0,2,kR abm (es++[e]) (max a b))]∧y.ag=x.ag:=by
 have hee:{ e with fr:=(k:Int) }=e:=by rw[<-hf]
 obtain⟨l1,l2⟩:=h.ld.ask pL hn (f:=(k:Int)) (e:=e) (by rw[hee];exact he);rw[hee] at l1 l2;have hrc:(x.rp 0).recv (k:Int) (gp e)=(x.rp 0).ask (k:Int) e:=aA rfl;refine⟨_,h.ad3 hi am,?_,?_,rfl⟩
 ·rw[hrc]
  have ht1:∀r,r<=es.length->(es++[e]).take r=es.take r:=λr hr=>List.take_append_of_le_length hr;refine⟨h.nr,h.na,h.cut,?_,?_,?_,?_,?_⟩
  ·show abI (at_ x.rp 0 ((x.rp 0).ask (k:Int) e).1 0) _ _ _ _ _
   rw[nK];exact l1
  ·show abT (at_ x.rp 0 ((x.rp 0).ask (k:Int) e).1 1) _ _ _ _
   rw[abC _ _ am,ht1 _ h.abQ.1];exact⟨h.f1.node,h.f1.nodes,h.f1.c,h.f1.leads,h.f1.v,by have:=h.f1.bs;omega,h.f1.ok⟩
  ·show abT (at_ x.rp 0 ((x.rp 0).ask (k:Int) e).1 2) _ _ _ _
   rw[abC _ _ am,ht1 _ h.abQ.2];exact⟨h.f2.node,h.f2.nodes,h.f2.c,h.f2.leads,h.f2.v,by have:=h.f2.bs;omega,h.f2.ok⟩
  ·rw[bd];have:=h.abQ;omega
  ·intro z hz
   rcases List.mem_append.1 hz with hz|hz
   ·exact h.fr z hz
   ·rw[List.mem_singleton.1 hz,hf];omega
 ·rw[hrc,l2]
  have sv:=acz (abm:=abm) (c:=max a b) (l:=es++[e]) (by rw[bd];simp;omega) (λz hz=>by
   rcases List.mem_append.1 hz with hz|hz
   ·exact h.ld.ok z hz
   ·rw[List.mem_singleton.1 hz];exact he) (by have:=h.ld.T1;omega) (by have:=h.ld.ab;omega)
  exact h.abU _ (λq hq=>by
   simp only[cI,cF,or_false] at hq;rcases hq with rfl|rfl
   ·exact⟨sv,by show (0:Int)<=1;decide,by show (1:Int)<6;decide⟩
   ·exact⟨sv,by show (0:Int)<=2;decide,by show (2:Int)<6;decide⟩) (by simp;omega)
theorem acQ(h:abA x es a b r1 r2 abm Bd){abn cm:Nat}(hi:x.net[i]?=some (0,j,kR abm (es.take abn) cm))(hj:j=1∨j=2)(hL:abn<=es.length)(a18:(x.net.eraseIdx i).length<=60)(pL:Bd<=1000000)(hn:es.length<=51){r1' r2':Nat}(e1:r1'=if j=1 then max r1 abn else r1)(e2:r2'=if j=2 then max r2 abn else r2):∃y,x.kK i=({ Ev.zero with node:=(j:Int) },y)∧abA y es a b r1' r2' abm (Bd+18000)∧y.net=x.net.eraseIdx i++[(j,0,m8 abm (if j=1 then r1' else r2'))]∧y.ag=x.ag:=by
 have fj:∀r,r<=es.length->(es.take r).length=r:=λr hr=>by rw[bn];omega
 have gC:∀e∈es.take abn,M8 e:=λe he=>h.ld.ok e (bW he);have ad1:∀r,r<=es.length->es.take (max r abn)=if (es.take r).length<(es.take abn).length then es.take abn else es.take r:=λr hr=>by
  rw[fj r hr,fj abn hL];split;·rw[Nat.max_eq_right ap]
  ·rw[Nat.max_eq_left ap]
 have hup:abI (x.rp 0) es a b abm (Bd+18000):=⟨h.ld.node,h.ld.nodes,h.ld.T1,h.ld.c,h.ld.m,h.ld.commit,h.ld.leads,h.ld.own,h.ld.v,h.ld.ab,by have:=h.ld.bs;omega,h.ld.ok⟩;refine⟨_,h.ad3 hi ap,?_⟩;rcases hj with rfl|rfl
 ·rw[aA rfl] at e1
  rw[aB am] at e2;subst e1 e2;obtain⟨g1,g2⟩:=h.f1.acc h.ld.T1 pL (l:=es.take abn) (by rw[fj abn hL];omega) gC 0 cm (ad1 _ h.abQ.1);have hrc:(x.rp 1).recv ((0:Nat):Int) (kR abm (es.take abn) cm)=(x.rp 1).accept 0 abm (es.take abn) cm:=by show (if (5:Int)=1 then _ else if ¬ (x.rp 1).hears 0 then _ else if (5:Int)=3 then _ else if (5:Int)=4 then _ else if (5:Int)=5 then (x.rp 1).accept 0 ((abm:Int)).toNat (es.take abn) ((cm:Int)).toNat else _)=_;rw[aB am,aB (λhh=>hh ⟨by decide,by rw[h.f1.nodes];decide,by rw[h.f1.node];decide⟩),aB am,aB am,aA rfl];rfl
  rw[hrc];refine⟨⟨h.nr,h.na,h.cut,?_,?_,?_,by have:=h.abQ;omega,h.fr⟩,?_,rfl⟩
  ·show abI (at_ x.rp 1 ((x.rp 1).accept 0 abm (es.take abn) cm).1 0) _ _ _ _ _
   rw[abC _ _ am];exact hup
  ·show abT (at_ x.rp 1 ((x.rp 1).accept 0 abm (es.take abn) cm).1 1) _ _ _ _
   rw[nK];exact g1
  ·show abT (at_ x.rp 1 ((x.rp 1).accept 0 abm (es.take abn) cm).1 2) _ _ _ _
   rw[abC _ _ am];exact⟨h.f2.node,h.f2.nodes,h.f2.c,h.f2.leads,h.f2.v,by have:=h.f2.bs;omega,h.f2.ok⟩
  ·rw[g2,fj _ (by have:=h.abQ;omega),aA rfl]
   exact h.abU _ (λq hq=>by rw[List.mem_singleton.1 hq];exact⟨ac5 (by have:=h.ld.T1;omega) (by have:=h.abQ;omega),by show (0:Int)<=0;decide,by show (0:Int)<6;decide⟩) (by simp;omega)
 ·rw[aB am] at e1
  rw[aA rfl] at e2;subst e1 e2;obtain⟨g1,g2⟩:=h.f2.acc h.ld.T1 pL (l:=es.take abn) (by rw[fj abn hL];omega) gC 0 cm (ad1 _ h.abQ.2);have hrc:(x.rp 2).recv ((0:Nat):Int) (kR abm (es.take abn) cm)=(x.rp 2).accept 0 abm (es.take abn) cm:=by show (if (5:Int)=1 then _ else if ¬ (x.rp 2).hears 0 then _ else if (5:Int)=3 then _ else if (5:Int)=4 then _ else if (5:Int)=5 then (x.rp 2).accept 0 ((abm:Int)).toNat (es.take abn) ((cm:Int)).toNat else _)=_;rw[aB am,aB (λhh=>hh ⟨by decide,by rw[h.f2.nodes];decide,by rw[h.f2.node];decide⟩),aB am,aB am,aA rfl];rfl
  rw[hrc];refine⟨⟨h.nr,h.na,h.cut,?_,?_,?_,by have:=h.abQ;omega,h.fr⟩,?_,rfl⟩
  ·show abI (at_ x.rp 2 ((x.rp 2).accept 0 abm (es.take abn) cm).1 0) _ _ _ _ _
   rw[abC _ _ am];exact hup
  ·show abT (at_ x.rp 2 ((x.rp 2).accept 0 abm (es.take abn) cm).1 1) _ _ _ _
   rw[abC _ _ am];exact⟨h.f1.node,h.f1.nodes,h.f1.c,h.f1.leads,h.f1.v,by have:=h.f1.bs;omega,h.f1.ok⟩
  ·show abT (at_ x.rp 2 ((x.rp 2).accept 0 abm (es.take abn) cm).1 2) _ _ _ _
   rw[nK];exact g1
  ·rw[g2,fj _ (by have:=h.abQ;omega),aB am]
   exact h.abU _ (λq hq=>by rw[List.mem_singleton.1 hq];exact⟨ac5 (by have:=h.ld.T1;omega) (by have:=h.abQ;omega),by show (0:Int)<=0;decide,by show (0:Int)<6;decide⟩) (by simp;omega)
theorem ac6(h:abA x es a b r1 r2 abm Bd)(hi:x.net[i]?=some (j,0,m8 abm n))(hj:j=1∨j=2)(hn:n<=es.length)(ha:a'=if j=1 then max a n else a)(hb:b'=if j=2 then max b n else b)(a18:(x.net.eraseIdx i).length+(max a' b'-max a b)<=64):∃y,x.kK i=({ Ev.zero with node:=0 },y)∧abA y es a' b' r1 r2 abm Bd∧y.net=x.net.eraseIdx i++goes 0 (ac2 (abE j4.new (es.take (max a b))) ((es.take (max a' b')).drop (max a b)))∧y.ag=x.ag:=by
 obtain⟨l1,l2⟩:=h.ld.Mq hj hn ha hb;have hrc:(x.rp 0).recv (j:Int) (m8 abm n)=mV (x.rp 0) j abm n:=by show (if (6:Int)=1 then _ else if ¬ (x.rp 0).hears (j:Int) then _ else if (6:Int)=3 then _ else if (6:Int)=4 then _ else if (6:Int)=5 then _ else if (6:Int)=6 then mV (x.rp 0) ((j:Int)).toNat ((abm:Int)).toNat ((n:Int)).toNat else _)=_;rw[aB am,aB (λhh=>hh ⟨by omega,by rw[h.ld.nodes];omega,by rw[h.ld.node];omega⟩),aB am,aB am,aB am,aA rfl];rfl
 refine⟨_,h.ad3 hi am,?_,?_,rfl⟩
 ·rw[hrc]
  refine⟨h.nr,h.na,h.cut,?_,?_,?_,h.abQ,h.fr⟩
  ·show abI (at_ x.rp 0 (mV (x.rp 0) j abm n).1 0) _ _ _ _ _
   rw[nK];exact l1
  ·show abT (at_ x.rp 0 (mV (x.rp 0) j abm n).1 1) _ _ _ _
   rw[abC _ _ am];exact h.f1
  ·show abT (at_ x.rp 0 (mV (x.rp 0) j abm n).1 2) _ _ _ _
   rw[abC _ _ am];exact h.f2
 ·rw[hrc,l2]
  refine h.abU _ (acD _ _ (acA _ ad2) λe he=>?_) (by rw[acB,bO,bn];omega);have:=bW (cX he);exact⟨h.ld.ok e this,h.fr e this⟩
theorem ad5(h:abA x es a b r1 r2 abm Bd){id:lp}(hi:x.net[i]?=some (0,3+k,fx (g:Int) (c:Int) m))(hid:qR (x.ag k).ask (g:Int)=some id):∃y,x.kK i=({ Ev.zero with node:=((3+k:Nat):Int),code:=(c:Int),id:=id,n:=if (c:Int)=8 then m else 0 },y)∧abA y es a b r1 r2 abm Bd∧y.net=x.net.eraseIdx i∧y.ag=at_ x.ag k ((x.ag k).took 0 g c):=by
 have kT:(qR (x.ag k).ask (g:Int)).isSome=true:=by rw[hid];rfl
 have tY:(x.ag k).jw g=id:=by unfold Ag.jw;rw[hid];rfl
 have N:3+k-3=k:=by omega
 have hd:x.kK i=({ Ev.zero with node:=((3+k:Nat):Int),code:=(c:Int),id:=id,n:=if (c:Int)=8 then m else 0 },(x.del i).jx k ((x.ag k).took 0 g c)):=by unfold Wl.kK;rw[hi];show (if x.cut (0*8+(3+k))=true then _ else if 3+k<x.nr then _ else if (qR (x.ag (3+k-x.nr)).ask (g:Int)).isSome=true then (({ Ev.zero with node:=((3+k:Nat):Int),code:=(c:Int),id:=(x.ag (3+k-x.nr)).jw (g:Int).toNat,n:=if (c:Int)=8 then m else 0 }:Ev),(x.del i).jx (3+k-x.nr) ((x.ag (3+k-x.nr)).took 0 (g:Int).toNat (c:Int).toNat)) else _)=_;rw[h.cut,aB (by simp),h.nr,aB ap,N,aA kT,cA,cA,tY]
 exact⟨_,hd,⟨h.nr,h.na,h.cut,h.ld,h.f1,h.f2,h.abQ,h.fr⟩,rfl,rfl⟩
end abA
theorem qB(node:Int)(k:Nat){d:Dr}(h:d.x.net.length≠0):eY node (k+1) d=eY node k (d.step node):=aB h
def iN.told(s:iN)(c:Nat)(i:I3)(m:Nat):iN:=s.add 2 { Ev.zero with node:=1,code:=(c:Int),id:=i,n:=if (c:Int)=8 then m else 0 }
theorem step_eq{d:Dr}{node:Int}{ev:Ev}{x1:Wl}(I:(d.x.kK 0).1=ev)(G:(d.x.kK 0).2=x1)(hw:ev.why=0):d.step node=⟨d.n+1,x1,d.s.add 2 ev,if ev.code=8∧ev.node=node then some ev.n else d.v⟩:=by
 have sC:¬ ev.why=26:=by rw[hw];decide
 unfold Dr.step;rw[I,G,aB sC];have hv:(if ev.why≠26∧ev.code=8∧ev.node=node then some ev.n else d.v)=if ev.code=8∧ev.node=node then some ev.n else d.v:=by
  by_cases h:ev.code=8∧ev.node=node;·rw[aA ⟨sC,h⟩,aA h]
  ·rw[aB (λk=>h k.2),aB h]
 rw[hv];rfl
namespace SW
variable{x:Wl}{eP:List Dl}{q:List abo.Ab}{tr:List (lp×(Nat×Nat))}{ask:List (Int×lp)}
theorem two{e:En}{i:lp}(h:SW x es ms abm Bd n eP q tr [((g:Int),i)] B [(1,0,gp e)])(pL:Bd<=1000000)(hn:es.length<=50)(he:M8 e)(hf:e.fr=1)(H:e.tg=(g:Int))(z8:g<=9223372036854775807)(E:(ei ms e).1=(c:Int))(lV:c<=255)(hm:(ei ms e).2.1=m)(zE:m<18446744073709551616)
 {B':Nat} {q':List abo.Ab} {V5:List (lp×(Nat×Nat))} (Yb:∀a,SA a n eP q tr [((g:Int),i)] B->SA (a.took 0 g c) n eP q' V5 [] B') (node:Int) (k a:Nat) (s:iN) (v:Option Nat):∃y,eY node (k+2) ⟨a,x,s,v⟩=⟨a+2,y,s.told c i m,if (c:Int)=8∧(1:Int)=node then some m else v⟩∧SW y (es++[e]) (ei ms e).2.2 abm (Bd+18000) n eP q' V5 [] B' []:=by
 obtain⟨e1,w1⟩:=h.yH (bo _) pL hn he hf H z8 E lV hm zE;obtain⟨x1,CM⟩:=aE ((x.kK 0).2);rw[<-CM] at w1;obtain⟨e2,w2⟩:=SW.Q5 (rest:=[]) w1 (i:=i) (by unfold qR;simp) (Yb _ w1.ag);obtain⟨x2,jS⟩:=aE ((x1.kK 0).2);rw[<-jS] at w2;have s1:Dr.step ⟨a,x,s,v⟩ node=⟨a+1,x1,s,v⟩:=by rw[step_eq (d:=⟨a,x,s,v⟩) e1 CM.symm rfl];exact congrArg (λz=>(⟨a+1,x1,s,z⟩:Dr)) (aB (show ¬ ((0:Int)=8∧(0:Int)=node) from λh=>absurd h.1 am))
 have s2:Dr.step ⟨a+1,x1,s,v⟩ node=⟨a+2,x2,s.told c i m,if (c:Int)=8∧(1:Int)=node then some m else v⟩:=by
  rw[step_eq (d:=⟨a+1,x1,s,v⟩) e2 jS.symm rfl];have hv:(if (c:Int)=8∧(1:Int)=node then some (if (c:Int)=8 then m else 0) else v)=if (c:Int)=8∧(1:Int)=node then some m else v:=by
   by_cases I:(c:Int)=8∧(1:Int)=node;·rw[aA I,aA I,aA I.1]
   ·rw[aB I,aB I]
  exact congrArg (λz=>(⟨a+2,x2,s.told c i m,z⟩:Dr)) hv
 refine⟨x2,?_,w2⟩;rw[qB node (k+1) (by show x.net.length≠0;rw[h.net];simp),s1,qB node k (by show x1.net.length≠0;rw[w1.net];simp),s2,ls node (by show x2.net.length=0;rw[w2.net];rfl)]
theorem jx{n' B':Nat}{Q6:List Dl}{q':List abo.Ab}{V5:List (lp×(Nat×Nat))}{Q7:List (Int×lp)}{net:List Lt3}(h:SW x es ms abm Bd n eP q tr ask B net){a:Ag}(ha:SA a n' Q6 q' V5 Q7 B'):SW (x.jx 0 a) es ms abm Bd n' Q6 q' V5 Q7 B' net:=⟨h.nr,h.na,h.cut,h.net,h.rp,by show SA (at_ x.ag 0 a 0) _ _ _ _ _ _;rw[nK];exact ha⟩
theorem TH(hd:DS d):iV [] d=0:=by
 unfold iV;have:gZ d=true:=by unfold gZ;rw[aC hd.p,aC (by have:=hd.n;omega)];rfl
 rw[this,aB am,aB am,aB (by simp[vA])]
theorem sent{e:En}(h:SW x es ms abm Bd n eP q tr ask B [])(he:M8 e):SW (x.send (x.nr+0) [((0:Int),gp e)]) es ms abm Bd n eP q tr ask B [(1,0,gp e)]:=by refine⟨h.nr,h.na,h.cut,?_,h.rp,h.ag⟩;show il (x.nr+x.na) (x.nr+0) x.net [((0:Int),gp e)]=_;rw[h.net,h.nr,h.na];show (if kX (gp e)=true∧_∧_ then _ else _)=_;rw[aA ⟨EV he,(by decide:(0:Int)<=0∧(0:Int)<((1+1:Nat):Int)),(by decide:0<64)⟩];rfl
theorem lN(h:SW x es ms abm Bd n [] [((n:Int),[d])] [] [] B [])(hd:DS d)(hn:1<=n∧n<=1000000)(ht:(x.ag 0).tag<9223372036854775807):∃t,SW (x.jy 0 1) es ms abm Bd n [] [((n:Int),[d])] [(ku n,t)] [((((x.ag 0).tag+1:Nat):Int),ku n)] B [(1,0,gp (lQ n d ((x.ag 0).tag+1)))]:=by obtain⟨t,I,G⟩:=h.ag.tick (ds':=d) rfl;refine⟨t,?_⟩;have:=(h.jx I).sent (Cr hd ⟨hn.1,by omega⟩ (tg:=(x.ag 0).tag+1) ap);unfold Wl.jy;rw[G];exact this
end SW
def nQ(x:Wl)(d:Dl):Wl:=((x.gI 0 d).fU 0).jy 0 1
@[irreducible] def tQ(d:Dl)(p:WS):WS:=vJ (nQ p.1 d,p.2)
namespace SW
variable{x:Wl}
theorem nQ{d:Dl}(h:SW x es ms abm Bd n [] [] [] [] B [])(hd:DS d)(hn:n<1000000)(hB:B<=900000)(ht:(x.ag 0).tag<9223372036854775807):∃(t:Nat×Nat)(tg:Nat),tg<=9223372036854775807∧SW (nQ x d) es ms abm Bd (n+1) [] [(((n+1:Nat):Int),[d])] [(ku (n+1),t)] [((tg:Int),ku (n+1))] (B+200) [(1,0,gp (lQ (n+1) d tg))]∧((x.ag 0).fX d).2=0:=by
 obtain⟨a1,a2⟩:=h.ag.fX ap hd (TH hd);have I:=h.jx a1;have c1:=(I.ag.cut ap hn hd (d:=d) rfl (λz hz=>by rw[List.mem_singleton.1 (show z∈[d] from hz)])).1;have G:=I.jx c1;have Yo:(((x.gI 0 d).fU 0).ag 0).tag=(x.ag 0).tag:=by show (at_ (x.gI 0 d).ag 0 ((x.gI 0 d).ag 0).cut.1 0).tag=_;rw[nK,(Ag.nN.cut _).tag];show (at_ x.ag 0 ((x.ag 0).fX d).1 0).tag=_;rw[nK,(Ag.nN.fX _ _).tag]
 obtain⟨t,L⟩:=SW.lN (x:=(x.gI 0 d).fU 0) G hd ⟨by omega,by omega⟩ (by rw[Yo];exact ht);exact⟨t,(((x.gI 0 d).fU 0).ag 0).tag+1,by rw[Yo];omega,L,a2⟩
end SW
theorem Io(x:Wl)(t:iN):vJ (x,t)=((eY (-1) 400 ⟨0,x,t,none⟩).x,(eY (-1) 400 ⟨0,x,t,none⟩).s):=by unfold vJ;rfl
theorem EW(d:Dl)(p:WS):tQ d p=((eY (-1) 400 ⟨0,nQ p.1 d,p.2,none⟩).x,(eY (-1) 400 ⟨0,nQ p.1 d,p.2,none⟩).s):=by unfold tQ;exact Io _ _
theorem yI{abn:Nat}(h:gY p 1 1 M abn)(hM:M<=1048576):(p.1.ag 0).tag<9223372036854775807:=by have:=(h.good.ag 0 (by rw[h.na];decide)).ti.tm.tag;omega
theorem SW.give(h:SW p.1 es ms abm Bd n [] [] [] [] B [])(hd:DS d)(pL:Bd<=1000000)(CP:es.length<=50)(hn:n<900000)(hB:B<=900000)(ht:(p.1.ag 0).tag<9223372036854775807)(E:(ei ms (lQ (n+1) d 0)).1=(c:Int))(sy:c=1∨c=2∨c=3)(hm:(ei ms (lQ (n+1) d 0)).2.1=0):∃tg,(tQ d p).2=p.2.told c (ku (n+1)) 0∧SW (tQ d p).1 (es++[lQ (n+1) d tg]) (ei ms (lQ (n+1) d 0)).2.2 abm (Bd+18000) (n+1) [] [] [] [] (B+300) []:=by
 obtain⟨t,tg,KS,I,_⟩:=h.nQ hd ap hB ht;have za:c<=255:=by omega
 have Yb:∀a,SA a (n+1) [] [(((n+1:Nat):Int),[d])] [(ku (n+1),t)] [((tg:Int),ku (n+1))] (B+200)->SA (a.took 0 tg c) (n+1) [] [] [] [] (B+300):=λa ha=>ha.done ap ap ap sy;obtain⟨y,G,L⟩:=I.two pL CP (Cr hd ⟨by omega,by omega⟩ KS) rfl rfl KS (c:=c) E za (m:=0) hm am Yb (-1) 398 0 p.2 none;refine⟨tg,?_⟩;have G:eY (-1) 400 ⟨0,Go.Proofs.YtpeepcmdehhbgaaGreatDoor.nQ p.1 d,p.2,none⟩=_:=G;rw[EW,G];exact⟨rfl,L⟩
theorem Q8{abn:Nat}(hp:gY p 1 1 M abn)(hM:M<=1000000)(h:SW p.1 es ms abm Bd n [] [] [] [] B [])(hd:DS d)(Ye:d.2<=9223372036854775807)(hn:n<900000)(hB:B<=900000):kr abq p.1 p.2 (EO 1 (d.2:Int) d.1) true (nQ p.1 d) p.2∧gY (nQ p.1 d,p.2) 1 1 (M+1) abn:=by
 obtain⟨_,_,_,_,hi⟩:=h.nQ hd ap hB (yI hp ap);have h0:0<p.1.na:=by rw[hp.na];decide
 have g1:=hp.good.gI h0 (d:=d) ap;have g2:=g1.fU h0;have g3:=g2.jy ap h0 (n:=1) am;have a1:=hp.good.EM (abq:=abq) h0 0 (n:=d.2) (s:=d.1) (by have:=hd.s;omega) Ye;rw[hp.nr] at a1;have a2:=g1.Ck (abq:=abq) (x:=p.1.gI 0 d) h0 0 0 ⟨#[]⟩;rw[show (p.1.gI 0 d).nr=1 from hp.nr] at a2;have a3:=g2.JH (abq:=abq) (x:=(p.1.gI 0 d).fU 0) ap h0 0 (n:=1) ⟨#[]⟩ ⟨by decide,by decide⟩;rw[show ((p.1.gI 0 d).fU 0).nr=1 from hp.nr] at a3;refine⟨?_,g3,hp.ok,hp.len,hp.nr,hp.na⟩;refine kr.ok (x':=p.1.gI 0 d) a1 hi (show (0:Nat)<18446744073709551616 by decide) ?_;refine kr.ok (x':=(p.1.gI 0 d).fU 0) a2 rfl (show (0:Nat)<18446744073709551616 by decide) ?_;refine kr.ok (x':=nQ p.1 d) a3 rfl (show (0:Nat)<18446744073709551616 by decide) ?_;exact kr.nil _ _
theorem SW.begun:SW (jP 1 1).1 [] j4.new 1 100 0 [] [] [] [] 100 []∧(jP 1 1).2=iN.new:=by
 obtain⟨I,G⟩:=SR.begin_;have Y:(Wl.new 1 1).gH 0=(Wl.new 1 1).qv 0 ((Rp.open_ 0 1 []).lead).1:=by show ((Wl.new 1 1).qv 0 ((Rp.open_ 0 1 []).lead).1).send 0 ((Rp.open_ 0 1 []).lead).2=_;rw[G];rfl
 have hn:((Wl.new 1 1).gH 0).net.length=0:=by rw[Y];rfl
 unfold jP;rw[ls (-1) (d:=⟨0,(Wl.new 1 1).gH 0,iN.new,none⟩) hn];refine⟨?_,rfl⟩;show SW ((Wl.new 1 1).gH 0) _ _ _ _ _ _ _ _ _ _ _;rw[Y];refine⟨rfl,rfl,rfl,rfl,?_,SA.new⟩;show SR (at_ (Wl.new 1 1).rp 0 _ 0) _ _ _ _;rw[nK];exact I
theorem vm:((jP 1 1).1.rp 0).leads=true:=SW.begun.1.rp.leads
theorem TI{V:aV}{w0 w:X}{s abn:Nat}{l:List Bl}(hS:St V w0 (mZ abq s p++l) w)(hp:gY p 1 1 M abn)(hM:M<=1000000)(hL:abn<=900000)(h:SW p.1 es ms abm Bd n [] [] [] [] B [])(hd:DS d)(Ye:d.2<=9223372036854775807)(hn:n<900000)(hB:B<=900000):(dz W 28 #[abq,s,J 1,aX d.1,J d.2] w λe O=>e=b5 (aY true)∧St V w0 (mZ abq s (tQ d p)++l) O)∧gY (tQ d p) 1 1 (M+1) (abn+400):=by
 obtain⟨hr,H⟩:=Q8 (abq:=abq) hp hM h hd Ye hn hB;have hq:gY (tQ d p) 1 1 (M+1) (abn+400):=by unfold tQ;exact H.YN
 refine⟨?_,hq⟩;have a29:(nQ p.1 d).Good (M+1):=H.good;have fj:=hp.len;have hG:=XH w (λ_=>False) abq s (M+1) p.1 (nQ p.1 d) p.2 p.2 1 (d.2:Int) d.1 hr hp.ok hp.ok a29 ap ap;have e:=EW d p;generalize eY (-1) 400 ⟨0,nQ p.1 d,p.2,none⟩=R at hG e;rw[e];have:=St.call (a:=mZ abq s p) (a':=λ(_:Unit)=>mZ abq s (R.x,R.s)) hS (λ_=>pu _ _ _) hS.no hG;exact this.mono λe O ⟨_,I,G⟩=>⟨I,G⟩
end Go.Proofs.YtpeepcmdehhbgaaGreatDoor
end
section
open Go.Proofs.YtpeepcmdehhbgaaGreatDoor (En Wl)
variable{k i Bd n abm B m a b r1 r2:Nat}{x:Wl}{es:List En}
namespace Go.Proofs.YtpeepcmdehhbgaaGreatDoor
open RowKit Hop V
theorem iN.ad6(s:iN)(n:Int):s.add 2 { Ev.zero with node:=n }=s:=rfl
theorem abB{d:Dr}(node:Int){l:Lt3}{rest:List Lt3}{n:Int}{y:Wl}(hn:d.x.net=l::rest)(h:d.x.kK 0=({ Ev.zero with node:=n },y)):eY node (k+1) d=eY node k ⟨d.n+1,y,d.s,d.v⟩:=by rw[qB node k (by rw[hn];simp),step_eq (d:=d) (node:=node) (ev:={ Ev.zero with node:=n }) (x1:=y) (by rw[h]) (by rw[h]) rfl,iN.ad6,aB (λE=>absurd E.1 (show ¬ (0:Int)=8 by decide))]
structure B3(x:Wl)(p0 p1 p2:Rp)(net:List Lt3):Prop where
 nr:x.nr=3
 na:x.na=3
 cut:x.cut=λ_=>false
 p0:x.rp 0=p0
 p1:x.rp 1=p1
 p2:x.rp 2=p2
 net:x.net=net
 ag:x.ag=λi=>Ag.new (3+i) 3 [] 1
section
variable{p0 p1 p2 q:Rp}{rest:List Lt3}{f j:Nat}{m:Ms}{l:Sends}
theorem B3.acl(h:B3 x p0 p1 p2 ((f,j,m)::rest))(hj:j<3)(hr:(x.rp j).recv (f:Int) m=(q,l))(hl:∀z∈l,kX z.2=true∧0<=z.1∧z.1<(6:Nat))(hn:rest.length+l.length<=64):∃y,x.kK 0=({ Ev.zero with node:=(j:Int) },y)∧B3 y (if 0=j then q else p0) (if 1=j then q else p1) (if 2=j then q else p2) (rest++goes j l):=by
 have hd:x.kK 0=({ Ev.zero with node:=(j:Int) },((x.del 0).qv j q).send j l):=by unfold Wl.kK;rw[h.net];show (if x.cut (f*8+j)=true then _ else if j<x.nr then (({ Ev.zero with node:=(j:Int) }:Ev),((x.del 0).qv j ((x.rp j).recv (f:Int) m).1).send j ((x.rp j).recv (f:Int) m).2) else _)=_;rw[h.cut,aB (by simp),h.nr,aA hj,hr]
 refine⟨_,hd,h.nr,h.na,h.cut,?_,?_,?_,?_,h.ag⟩;·show (if 0=j then q else x.rp 0)=_;rw[h.p0]
 ·show (if 1=j then q else x.rp 1)=_;rw[h.p1]
 ·show (if 2=j then q else x.rp 2)=_;rw[h.p2]
 ·show il (x.nr+x.na) j (x.net.eraseIdx 0) l=_
  rw[h.nr,h.na,h.net];exact abJ 6 j l _ hl hn
end
theorem acm:kX (jX 3)=true:=by have h:=eE (n:=3) am;show decide (([UInt8.ofNat 3]++enc 3).length<=65536)=true;refine aC ?_;simp only[bd,bv];omega
theorem acn:kX (i9 3 0 [])=true:=by have h:=eE (n:=3) am;have h0:=eE (n:=0) am;show decide (([UInt8.ofNat 4]++enc 3++enc 0++enc 0++[]).length<=65536)=true;refine aC ?_;simp only[bd,bv,cx];omega
theorem aco:kX (kR 3 [] 0)=true:=acz am (λ_ h=>by cases h) am am
def bs1:Vs:=⟨[⟨3,0,[]⟩]⟩
def bs2:Vs:=⟨[⟨3,0,[]⟩,⟨3,3,[]⟩]⟩
def bv1:Vt:=⟨3,3,[true,false,false,false,false,false,false,false],cS 8 0,0,[],1⟩
def bv2:Vt:=⟨3,3,[true,true,false,false,false,false,false,false],cS 8 0,0,[],2⟩
theorem acE(t h:Nat)(ht:t<18446744073709551616)(hh:h<18446744073709551616):(Wo.B ⟨t,h,[]⟩).length<=30∧(frame (Wo.B ⟨t,h,[]⟩)).length<=44:=by have I:(Wo.B ⟨t,h,[]⟩).length<=30:=tP (l:=[]) (λ_ h=>by cases h) am ht hh;have G:=lu (b:=Wo.B ⟨t,h,[]⟩) ap;exact⟨I,by omega⟩
theorem adl:bs1.bs.length<=44:=by have:=(acE 3 0 am am).2;show (frame (Wo.B ⟨3,0,[]⟩)++[]).length<=44;rw[bm];exact this
theorem acY:bs2.bs.length<=88:=by have h0:=(acE 3 0 am am).2;have I:=(acE 3 3 am am).2;show (frame (Wo.B ⟨3,0,[]⟩)++(frame (Wo.B ⟨3,3,[]⟩)++[])).length<=88;simp only[bd,cx];omega
theorem bk0:(Vs.mk []).promise 3=some bs1:=by have:=acE 3 0 am am;exact qA (s:=⟨[]⟩) (y:=⟨3,0,[]⟩) ap (by show 0+_<=_;omega)
theorem bk1:bs1.accept 3 []=some bs2:=by have I:=acE 3 3 am am;have G:=adl;exact qA (s:=bs1) (y:=⟨3,3,[]⟩) ap ap
theorem adA:(Rp.open_ 0 3 []).lead=(⟨0,3,bs1,j4.new,0,some bv1,false,0⟩,[(1,jX 3),(2,jX 3)]):=by have hp:(Rp.open_ 0 3 []).s.promise (lM (Rp.open_ 0 3 []).s.c.t (Rp.open_ 0 3 []).node (Rp.open_ 0 3 []).nodes)=some bs1:=bk0;unfold Rp.lead;rw[aB (show ¬ ((Rp.open_ 0 3 []).s.c.t > 1099511627776) from (by decide:¬ (0 > 1099511627776))),hp];dsimp only;rw[aB am];rfl
theorem ad7(hi:i=1∨i=2):(Rp.open_ i 3 []).recv 0 (jX 3)=(⟨i,3,bs1,j4.new,0,none,false,0⟩,[(0,i9 3 0 [])]):=by
 have e:(Rp.open_ i 3 []).recv 0 (jX 3)=(Rp.open_ i 3 []).prepare 0 3:=by show (if (3:Int)=1 then _ else if ¬ (Rp.open_ i 3 []).hears 0 then _ else if (3:Int)=3 then (Rp.open_ i 3 []).prepare 0 ((3:Nat):Int).toNat else _)=_;rw[aB am,aB (λhh=>hh (by rcases hi with rfl|rfl<;>exact⟨by decide,by decide,by decide⟩)),aA rfl];rfl
 have hp:(Rp.open_ i 3 []).s.promise 3=some bs1:=bk0;rw[e];unfold Rp.prepare;rw[hp];rfl
theorem adn:Rp.recv ⟨0,3,bs1,j4.new,0,some bv1,false,0⟩ 1 (i9 3 0 [])=(⟨0,3,bs2,j4.new,0,some (bv2.told 0 0),true,0⟩,[(1,kR 3 [] 0),(2,kR 3 [] 0)]):=by
 have e:Rp.recv ⟨0,3,bs1,j4.new,0,some bv1,false,0⟩ 1 (i9 3 0 [])=Rp.won ⟨0,3,bs1,j4.new,0,some bv2,false,0⟩ bv2:=by show (if (4:Int)=1 then _ else if ¬ (Rp.mk 0 3 bs1 j4.new 0 (some bv1) false 0).hears 1 then _ else if (4:Int)=3 then _ else if (4:Int)=4 then ji (Rp.mk 0 3 bs1 j4.new 0 (some bv1) false 0) 1 3 0 [] else _)=_;rw[aB am,aB (λhh=>hh ⟨by decide,by decide,by decide⟩),aB am,aA rfl];rfl
 have ha:(Rp.mk 0 3 bs1 j4.new 0 (some bv2) false 0).s.accept bv2.t bv2.best=some bs2:=bk1;have e2:Rp.won ⟨0,3,bs1,j4.new,0,some bv2,false,0⟩ bv2=Rp.told ⟨0,3,bs2,j4.new,0,some bv2,true,0⟩ bv2:=by unfold Rp.won;rw[ha];rfl
 have E:∀n,Rp.apply ⟨0,3,bs2,j4.new,0,some (bv2.told 0 0),true,0⟩ n=(⟨0,3,bs2,j4.new,0,some (bv2.told 0 0),true,0⟩,[]):=λn=>by unfold Rp.apply;have:(Rp.mk 0 3 bs2 j4.new 0 (some (bv2.told 0 0)) true 0).s.c.es=[]:=rfl;rw[this,List.take_nil,List.drop_nil];simp[CJ]
 have L:Rp.counted ⟨0,3,bs2,j4.new,0,some bv2,true,0⟩ bv2 0 0=(⟨0,3,bs2,j4.new,0,some (bv2.told 0 0),true,0⟩,[]):=E _;rw[e,e2];unfold Rp.told;show ((Rp.counted _ bv2 0 0).1,(Rp.counted _ bv2 0 0).2++(Rp.counted _ bv2 0 0).1.accepts)=_;rw[L];rfl
theorem ado:Rp.recv ⟨0,3,bs2,j4.new,0,some (bv2.told 0 0),true,0⟩ 2 (i9 3 0 [])=(⟨0,3,bs2,j4.new,0,some (bv2.told 0 0),true,0⟩,[]):=by show (if (4:Int)=1 then _ else if ¬ (Rp.mk 0 3 bs2 j4.new 0 (some (bv2.told 0 0)) true 0).hears 2 then _ else if (4:Int)=3 then _ else if (4:Int)=4 then ji (Rp.mk 0 3 bs2 j4.new 0 (some (bv2.told 0 0)) true 0) 2 3 0 [] else _)=_;rw[aB am,aB (λhh=>hh ⟨by decide,by decide,by decide⟩),aB am,aA rfl];rfl
theorem ady(hi:i=1∨i=2):Rp.recv ⟨i,3,bs1,j4.new,0,none,false,0⟩ 0 (kR 3 [] 0)=(⟨i,3,bs2,j4.new,0,none,false,0⟩,[(0,m8 3 0)]):=by
 have e:Rp.recv ⟨i,3,bs1,j4.new,0,none,false,0⟩ 0 (kR 3 [] 0)=Rp.accept ⟨i,3,bs1,j4.new,0,none,false,0⟩ 0 3 [] 0:=by show (if (5:Int)=1 then _ else if ¬ (Rp.mk i 3 bs1 j4.new 0 none false 0).hears 0 then _ else if (5:Int)=3 then _ else if (5:Int)=4 then _ else if (5:Int)=5 then Rp.accept ⟨i,3,bs1,j4.new,0,none,false,0⟩ 0 3 [] 0 else _)=_;rw[aB am,aB (λhh=>hh (by rcases hi with rfl|rfl<;>exact⟨by decide,by decide,by decide⟩)),aB am,aB am,aA rfl]
 have ha:(Rp.mk i 3 bs1 j4.new 0 none false 0).s.accept 3 []=some bs2:=bk1;rw[e];unfold Rp.accept;rw[ha];rfl
theorem abA.begun:abA (jP 3 3).1 [] 0 0 0 0 3 100∧(jP 3 3).1.net=[]∧(jP 3 3).1.ag=(λi=>Ag.new (3+i) 3 [] 1)∧(jP 3 3).2=iN.new:=by
 have h0:B3 ((Wl.new 3 3).gH 0) ⟨0,3,bs1,j4.new,0,some bv1,false,0⟩ (Rp.open_ 1 3 []) (Rp.open_ 2 3 []) [(0,1,jX 3),(0,2,jX 3)]:=by
  have e:(Wl.new 3 3).gH 0=((Wl.new 3 3).qv 0 ((Rp.open_ 0 3 []).lead).1).send 0 ((Rp.open_ 0 3 []).lead).2:=rfl;rw[e,adA];refine⟨rfl,rfl,rfl,rfl,rfl,rfl,?_,rfl⟩;exact abJ 6 0 [((1:Int),jX 3),(2,jX 3)] [] (λq hq=>by
   simp only[cI,cF,or_false] at hq;rcases hq with rfl|rfl
   ·exact⟨acm,by show (0:Int)<=1;decide,by show (1:Int)<6;decide⟩
   ·exact⟨acm,by show (0:Int)<=2;decide,by show (2:Int)<6;decide⟩) am
 have one:∀{m:Ms},kX m=true->∀q∈[((0:Int),m)],kX q.2=true∧0<=q.1∧q.1<(6:Nat):=λhm q hq=>by rw[List.mem_singleton.1 hq];exact⟨hm,by show (0:Int)<=0;decide,by show (0:Int)<6;decide⟩
 have d0:kX (m8 3 0)=true:=ac5 am am;obtain⟨x1,e1,I⟩:=h0.acl am (by rw[h0.p1];exact ad7 (.inl rfl)) (one acn) am;have I:B3 x1 (Rp.mk 0 3 bs1 j4.new 0 (some bv1) false 0) (Rp.mk 1 3 bs1 j4.new 0 none false 0) (Rp.open_ 2 3 []) [(0,2,jX 3),(1,0,i9 3 0 [])]:=I;obtain⟨x2,e2,G⟩:=I.acl am (by rw[I.p2];exact ad7 (.inr rfl)) (one acn) am;have G:B3 x2 (Rp.mk 0 3 bs1 j4.new 0 (some bv1) false 0) (Rp.mk 1 3 bs1 j4.new 0 none false 0) (Rp.mk 2 3 bs1 j4.new 0 none false 0) [(1,0,i9 3 0 []),(2,0,i9 3 0 [])]:=G;obtain⟨x3,e3,L⟩:=G.acl (q:=(Rp.mk 0 3 bs2 j4.new 0 (some (bv2.told 0 0)) true 0)) (l:=[(1,kR 3 [] 0),(2,kR 3 [] 0)]) am (by rw[G.p0];exact adn) (λq hq=>by
  simp only[cI,cF,or_false] at hq;rcases hq with rfl|rfl
  ·exact⟨aco,by show (0:Int)<=1;decide,by show (1:Int)<6;decide⟩
  ·exact⟨aco,by show (0:Int)<=2;decide,by show (2:Int)<6;decide⟩) am
 have L:B3 x3 (Rp.mk 0 3 bs2 j4.new 0 (some (bv2.told 0 0)) true 0) (Rp.mk 1 3 bs1 j4.new 0 none false 0) (Rp.mk 2 3 bs1 j4.new 0 none false 0) [(2,0,i9 3 0 []),(0,1,kR 3 [] 0),(0,2,kR 3 [] 0)]:=L;obtain⟨x4,e4,h4⟩:=L.acl (q:=(Rp.mk 0 3 bs2 j4.new 0 (some (bv2.told 0 0)) true 0)) (l:=[]) am (by rw[L.p0];exact ado) (λq hq=>by cases hq) am;have h4:B3 x4 (Rp.mk 0 3 bs2 j4.new 0 (some (bv2.told 0 0)) true 0) (Rp.mk 1 3 bs1 j4.new 0 none false 0) (Rp.mk 2 3 bs1 j4.new 0 none false 0) [(0,1,kR 3 [] 0),(0,2,kR 3 [] 0)]:=h4;obtain⟨x5,e5,h5⟩:=h4.acl am (by rw[h4.p1];exact ady (.inl rfl)) (one d0) am;have h5:B3 x5 (Rp.mk 0 3 bs2 j4.new 0 (some (bv2.told 0 0)) true 0) (Rp.mk 1 3 bs2 j4.new 0 none false 0) (Rp.mk 2 3 bs1 j4.new 0 none false 0) [(0,2,kR 3 [] 0),(1,0,m8 3 0)]:=h5;obtain⟨x6,e6,h6⟩:=h5.acl am (by rw[h5.p2];exact ady (.inr rfl)) (one d0) am;have h6:B3 x6 (Rp.mk 0 3 bs2 j4.new 0 (some (bv2.told 0 0)) true 0) (Rp.mk 1 3 bs2 j4.new 0 none false 0) (Rp.mk 2 3 bs2 j4.new 0 none false 0) [(1,0,m8 3 0),(2,0,m8 3 0)]:=h6;have hL:abI (Rp.mk 0 3 bs2 j4.new 0 (some (bv2.told 0 0)) true 0) [] 0 0 3 100:=⟨rfl,rfl,by decide,rfl,rfl,rfl,rfl,rfl,⟨_,rfl,rfl,rfl,by decide⟩,by decide,by have:=acY;show bs2.bs.length<=100;omega,λ_ h=>by cases h⟩;have hF:∀i,abT (Rp.mk i 3 bs2 j4.new 0 none false 0) i [] 3 100:=λi=>⟨rfl,rfl,rfl,rfl,rfl,by have:=acY;show bs2.bs.length<=100;omega,λ_ h=>by cases h⟩;have w6:abA x6 [] 0 0 0 0 3 100:=⟨h6.nr,h6.na,h6.cut,by rw[h6.p0];exact hL,by rw[h6.p1];exact hF 1,by rw[h6.p2];exact hF 2,by decide,λ_ h=>by cases h⟩;have n6:x6.net=[(1,0,m8 3 0),(2,0,m8 3 0)]:=h6.net;obtain⟨x7,e7,w7,n7,a7⟩:=w6.ac6 (i:=0) (by rw[n6];rfl) (.inl rfl) (bh _) (a':=0) (b':=0) rfl rfl (by rw[n6];decide);have n7:x7.net=[(2,0,m8 3 0)]:=by rw[n7,n6];rfl
 obtain⟨x8,e8,w8,n8,a8⟩:=w7.ac6 (i:=0) (by rw[n7];rfl) (.inr rfl) (bh _) (a':=0) (b':=0) rfl rfl (by rw[n7];decide);have n8:x8.net=[]:=by rw[n8,n7];rfl
 have hd:eY (-1) 100 ⟨0,(Wl.new 3 3).gH 0,iN.new,none⟩=⟨8,x8,iN.new,none⟩:=by rw[abB (-1) (k:=99) h0.net e1,abB (-1) (k:=98) I.net e2,abB (-1) (k:=97) G.net e3,abB (-1) (k:=96) L.net e4,abB (-1) (k:=95) h4.net e5,abB (-1) (k:=94) h5.net e6,abB (-1) (k:=93) n6 e7,abB (-1) (k:=92) n7 e8,ls (-1) (by show x8.net.length=0;rw[n8];rfl)]
 unfold jP;rw[hd];exact⟨w8,n8,a8.trans (a7.trans h6.ag),rfl⟩
theorem abA.six{g c:Nat}{e:En}{id:lp}(h:abA x es n n n n abm Bd)(hn:es.length=n)(a18:x.net=[(3+k,0,gp e)])(N:k<3)(hf:e.fr=((3+k:Nat):Int))(he:M8 e)(H:e.tg=(g:Int))(E:(ei (abE j4.new es) e).1=(c:Int))(hm:(ei (abE j4.new es) e).2.1=m)(hid:qR (x.ag k).ask (g:Int)=some id)(pL:Bd<=900000)(CP:n<=49)(s:iN)(a0 j:Nat):∃y,eY (-1) (j+6) ⟨a0,x,s,none⟩=⟨a0+6,y,s.add 2 { Ev.zero with node:=((3+k:Nat):Int),code:=(c:Int),id:=id,n:=if (c:Int)=8 then m else 0 },none⟩∧abA y (es++[e]) (n+1) (n+1) (n+1) (n+1) abm (Bd+54000)∧y.net=[]∧y.ag=at_ x.ag k ((x.ag k).took 0 g c):=by
 have hl:(es++[e]).length=n+1:=by rw[bd,hn];rfl
 have ht:(es++[e]).take (n+1)=es++[e]:=bH ap;have ht0:(es++[e]).take n=es:=by rw[<-hn,List.take_left]
 obtain⟨y1,d1,w1,n1,g1⟩:=h.ad4 (i:=0) (k:=3+k) (e:=e) (by rw[a18];rfl) ap hf (by rw[a18];simp) ap ap he;have n1:y1.net=[(0,1,kR abm (es++[e]) n),(0,2,kR abm (es++[e]) n)]:=by rw[n1,a18,Nat.max_self];rfl
 obtain⟨y2,d2,w2,n2,g2⟩:=w1.acQ (i:=0) (j:=1) (abn:=n+1) (cm:=n) (by rw[n1,ht];rfl) (.inl rfl) ap (by rw[n1];simp) ap ap (r1':=n+1) (r2':=n) (by rw[aA rfl];omega) (by rw[aB am]);have n2:y2.net=[(0,2,kR abm (es++[e]) n),(1,0,m8 abm (n+1))]:=by rw[n2,n1];rfl
 obtain⟨y3,d3,w3,n3,g3⟩:=w2.acQ (i:=0) (j:=2) (abn:=n+1) (cm:=n) (by rw[n2,ht];rfl) (.inr rfl) ap (by rw[n2];simp) ap ap (r1':=n+1) (r2':=n+1) (by rw[aB am]) (by rw[aA rfl];omega);have n3:y3.net=[(1,0,m8 abm (n+1)),(2,0,m8 abm (n+1))]:=by rw[n3,n2];rfl
 obtain⟨y4,d4,w4,n4,g4⟩:=w3.ac6 (i:=0) (j:=1) (n:=n+1) (by rw[n3];rfl) (.inl rfl) ap (a':=n+1) (b':=n) (by rw[aA rfl];omega) (by rw[aB am]) (by rw[n3];simp);have n4:y4.net=[(2,0,m8 abm (n+1)),(0,3+k,fx (g:Int) (c:Int) m)]:=by rw[n4,n3,Nat.max_self,Nat.max_eq_left (Nat.le_succ n),ht0,ht,<-hn,List.drop_left];show [(2,0,m8 abm (es.length+1)),(0,e.fr.toNat,fx e.tg (ei (abE j4.new es) e).1 (ei (abE j4.new es) e).2.1)]=_;rw[E,hm,H,hf];rfl
 obtain⟨y5,d5,w5,n5,g5⟩:=w4.ac6 (i:=0) (j:=2) (n:=n+1) (by rw[n4];rfl) (.inr rfl) ap (a':=n+1) (b':=n+1) (by rw[aB am]) (by rw[aA rfl];omega) (by rw[n4];simp);have n5:y5.net=[(0,3+k,fx (g:Int) (c:Int) m)]:=by rw[n5,n4,Nat.max_self,Nat.max_eq_left (Nat.le_succ n),cR (by rw[bn];omega)];rfl
 have ga:y5.ag=x.ag:=g5.trans (g4.trans (g3.trans (g2.trans g1)));obtain⟨y6,d6,w6,n6,g6⟩:=w5.ad5 (i:=0) (k:=k) (g:=g) (c:=c) (m:=m) (id:=id) (by rw[n5];rfl) (by rw[ga];exact hid);have n6:y6.net=[]:=by rw[n6,n5];rfl
 refine⟨y6,?_,by rw[show Bd+54000=Bd+18000+18000+18000 by omega];exact w6,n6,by rw[g6,ga]⟩;rw[abB (-1) (k:=j+5) a18 d1,abB (-1) (k:=j+4) n1 d2,abB (-1) (k:=j+3) n2 d3,abB (-1) (k:=j+2) n3 d4,abB (-1) (k:=j+1) n4 d5];rw[qB (-1) j (by show y5.net.length≠0;rw[n5];simp),step_eq (node := -1) (x1:=y6) (by show (y5.kK 0).1=_;rw[d6]) (by show (y5.kK 0).2=_;rw[d6]) rfl,ls (-1) (by show y6.net.length=0;rw[n6];rfl)];exact congrArg (λz=>(⟨a0+6,y6,_,z⟩:Dr)) (aB (λhh=>absurd hh.2 (show ¬ (((3+k:Nat):Int)=-1) by omega)))
structure RdP where
 (es0:List En) (abm:Nat) (abF:Nat->ByteArray) (tg v abp:Nat->Nat) (B:Nat)
namespace RdP
variable(R:RdP)
def abl(k:Nat):En:=kq (R.abF k) (3+k) (R.tg k)
def row(P:aQ):List En:=R.es0++P.map R.abl
def abN(k:Nat):Lt3:=(3+k,0,gp (R.abl k))
def abH(P:aQ)(z:Nat×Nat×Nat):Lt3:=(0,z.1,kR R.abm ((R.row P).take z.2.1) z.2.2)
def abO(z:Nat×Nat):Lt3:=(z.1,0,m8 R.abm z.2)
def abK(k:Nat):Lt3:=(0,3+k,fx (R.tg k:Int) ((8:Nat):Int) (R.v k))
def n0:Nat:=R.es0.length
theorem adp(P:aQ):(R.row P).length=R.n0+P.length:=by unfold row n0;rw[bd,bj]
theorem ad8(P:aQ)(k:Nat){abn:Nat}(h:abn<=(R.row P).length):(R.row (P++[k])).take abn=(R.row P).take abn:=by
 have:R.row (P++[k])=R.row P++[R.abl k]:=by unfold row;rw[bI,bp];rfl
 rw[this,List.take_append_of_le_length h]
structure Ok:Prop where
 n0:R.n0<=40
 abF:∀k,k<3->abn.fW (R.abF k)=0∧(R.abF k).size<=20
 tg:∀k,k<3->R.tg k<=9223372036854775807
 v:∀k,k<3->R.v k=abk.gt (abE j4.new R.es0).q (R.abF k)
structure In3(x:Wl)(A P abo D:List Nat)(ac:List (Nat×Nat×Nat))(ad:List (Nat×Nat))(a b r1 r2 Bd:Nat):Prop where
 w:abA x (R.row P) a b r1 r2 R.abm Bd
 net:x.net.Perm (A.map R.abN++ac.map (R.abH P)++ad.map R.abO++abo.map R.abK)
 acF:(A++P).Perm [0,1,2]
 acR:(abo++D).Perm (P.take (max a b-R.n0))
 lo:R.n0<=a∧R.n0<=b
 hac:∀z∈ac,(z.1=1∨z.1=2)∧z.2.1<=(R.row P).length
 had:∀z∈ad,(z.1=1∨z.1=2)∧z.2<=(R.row P).length
 c1:a=(R.row P).length∨(∃z∈ad,z=(1,(R.row P).length))∨∃z∈ac,z.1=1∧z.2.1=(R.row P).length
 c2:b=(R.row P).length∨(∃z∈ad,z=(2,(R.row P).length))∨∃z∈ac,z.1=2∧z.2.1=(R.row P).length
 ag:∀k,k<3->abD (3+k) 3 (x.ag k) (R.abp k) [] [] [] (if k∈D then [] else [((R.tg k:Int),(0,0,0))]) R.B
 wt:6*A.length+2*ac.length+ad.length+abo.length+((R.row P).length-max a b)<=18
 adq:Bd+18000*(3*A.length+ac.length)<=900000
def wt(A P abo:aQ)(ac:List (Nat×Nat×Nat))(ad:List (Nat×Nat))(a b:Nat):Nat:=6*A.length+2*ac.length+ad.length+abo.length+((R.row P).length-max a b)
end RdP
theorem abW{α β:Type}{f:α->β}{l:List α}{y:β}(h:y∈l.map f):∃x l',f x=y∧l.Perm (x::l'):=by obtain⟨x,Y,rfl⟩:=List.mem_map.1 h;obtain⟨s,t,rfl⟩:=List.append_of_mem Y;exact⟨x,s++t,rfl,List.perm_middle⟩
theorem abL{α:Type}{l:List α}{y:α}(h:l[i]?=some y):l.Perm (y::l.eraseIdx i):=by
 induction l generalizing i with
 | nil=>simp at h
 | cons z l ih=>
   cases i with
   | zero=>simp at h;rw[h];exact List.Perm.refl _
   | succ i=>exact ((ih (by simpa using h)).cons z).trans (List.Perm.swap _ _ _)
namespace RdP
variable{R:RdP}
theorem adF(T:R.Ok)(N:k<3):M8 (R.abl k):=by
 obtain⟨I,G⟩:=T.abF k N;have L:=T.tg k N;have:=Q3 I G L;refine⟨⟨⟨⟨by show (0:Int)<=((3+k:Nat):Int);omega,by show ((3+k:Nat):Int)<8;omega⟩,this.1.1.2⟩,this.1.2⟩,?_⟩;have e1:=eE (n:=3+k) ap;have e2:=eE (n:=R.tg k) ap;have e3:=eE (n:=(R.abF k).size) ap;have e4:(R.abF k).data.toList.length=(R.abF k).size:=rfl;have e:pg (R.abl k)=[UInt8.ofNat 2]++enc (3+k)++enc (R.tg k)++enc (R.abF k).size++(R.abF k).data.toList:=by unfold pg abl kq;rw[aA rfl];simp;rw[show ((3:Int)+(k:Int)).toNat=3+k by omega]
 rw[e];simp only[bd,bv];omega
theorem acT(P:aQ)(m:j4):abE m (P.map R.abl)=m:=by
 induction P with
 | nil=>rfl
 | cons k P ih=>exact ih
theorem ac7(T:R.Ok):∀(P:aQ),(∀k∈P,k<3)->goes 0 (ac2 (abE j4.new R.es0) (P.map R.abl))=P.map R.abK
 | [],_=>rfl
 | k::P,h=>by
   have ih:=ac7 T P λx Y=>h x (bR _ Y);have hv:=T.v k (h k cj);have e:ei (abE j4.new R.es0) (R.abl k)=(8,abk.gt (abE j4.new R.es0).q (R.abF k),abE j4.new R.es0):=aA rfl;show (0,(R.abl k).fr.toNat,fx (R.abl k).tg (ei (abE j4.new R.es0) (R.abl k)).1 (ei (abE j4.new R.es0) (R.abl k)).2.1)::goes 0 (ac2 (ei (abE j4.new R.es0) (R.abl k)).2.2 (P.map R.abl))=R.abK k::_;rw[e,<-hv];show _::goes 0 (ac2 (abE j4.new R.es0) (P.map R.abl))=_;rw[ih];rfl
end RdP
end Go.Proofs.YtpeepcmdehhbgaaGreatDoor
section
namespace Go.Proofs.YtpeepcmdehhbgaaGreatDoor
open Go.RowKit Go.Hop V
namespace RdP
variable{R:RdP}{A P abo D:aQ}{ac:List (Nat×Nat×Nat)}{ad:List (Nat×Nat)}
def Step(R:RdP)(x:Wl)(i:Nat)(D:aQ)(wt:Nat):Prop:=∃y ev A' P' Q' D' ac' Ze a' b' r1' r2' YP,x.kK i=(ev,y)∧R.In3 y A' P' Q' D' ac' Ze a' b' r1' r2' YP∧R.wt A' P' Q' ac' Ze a' b'+1=wt∧((D'=D∧∃n:Nat,n<3∧ev={ Ev.zero with node:=(n:Int) })∨(∃k,k<3∧k ∉ D∧D'=k::D∧ev={ Ev.zero with node:=((3+k:Nat):Int),code:=((8:Nat):Int),id:=(0,0,0),n:=R.v k }))
theorem In3.len(h:R.In3 x A P abo D ac ad a b r1 r2 Bd):x.net.length=A.length+ac.length+ad.length+abo.length:=by have:=h.net.length_eq;simp at this;omega
theorem In3.few(h:R.In3 x A P abo D ac ad a b r1 r2 Bd):x.net.length<=18:=by have:=h.len;have:=h.wt;omega
theorem In3.k3(h:R.In3 x A P abo D ac ad a b r1 r2 Bd)(N:k∈A++P):k<3:=by have:=h.acF.mem_iff.1 N;simp at this;omega
theorem In3.pl(h:R.In3 x A P abo D ac ad a b r1 r2 Bd):A.length+P.length=3:=by have:=h.acF.length_eq;simpa using this
theorem In3.row(h:R.In3 x A P abo D ac ad a b r1 r2 Bd)(T:R.Ok):(R.row P).length<=43∧(R.row P).length=R.n0+P.length:=by have:=h.pl;have:=R.adp P;have:=T.n0;omega
theorem In3.top(h:R.In3 x A P abo D ac ad a b r1 r2 Bd):max a b<=(R.row P).length:=by have:=h.w.ld.ab;omega
theorem In3.ask(h:R.In3 x A P abo D ac ad a b r1 r2 Bd)(T:R.Ok){A':aQ}(hA:A.Perm (k::A'))(hi:x.net[i]?=some (R.abN k)):R.Step x i D (R.wt A P abo ac ad a b):=by
 have N:k<3:=h.k3 (List.mem_append_left _ (hA.mem_iff.2 cj));have hAl:A.length=A'.length+1:=hA.length_eq;obtain⟨Z1,hr2⟩:=h.row T;have a1t:=h.top;have hbd:=h.adq;have hel:(x.net.eraseIdx i).length<=60:=bB (List.length_eraseIdx_le _ _) (by have:=h.few;omega);obtain⟨y,e1,w1,n1,g1⟩:=h.w.ad4 (k:=3+k) (e:=R.abl k) hi ap rfl hel ap ap (adF T N);have ad1:R.row (P++[k])=R.row P++[R.abl k]:=by unfold RdP.row;rw[bI,bp];rfl
 have fj:(R.row (P++[k])).length=(R.row P).length+1:=by rw[ad1,bd];rfl
 have hac:ac.map (R.abH (P++[k]))=ac.map (R.abH P):=cO λz hz=>by unfold abH;rw[R.ad8 P k (h.hac z hz).2]
 have Iu:∀j cm,R.abH (P++[k]) (j,(R.row P).length+1,cm)=(0,j,kR R.abm (R.row P++[R.abl k]) cm):=λj cm=>by unfold abH;rw[<-fj,dq,ad1]
 have her:(x.net.eraseIdx i).Perm (A'.map R.abN++ac.map (R.abH P)++ad.map R.abO++abo.map R.abK):=by have I:=(abL hi).symm.trans h.net;have G:(A.map R.abN++ac.map (R.abH P)++ad.map R.abO++abo.map R.abK).Perm (R.abN k::(A'.map R.abN++ac.map (R.abH P)++ad.map R.abO++abo.map R.abK)):=(((hA.map R.abN).append_right _).append_right _).append_right _;exact (List.perm_cons _).1 (I.trans G)
 refine⟨y,_,A',P++[k],abo,D,ac++[(1,(R.row P).length+1,max a b),(2,(R.row P).length+1,max a b)],ad,a,b,r1,r2,Bd+18000,e1,⟨?_,?_,?_,?_,h.lo,?_,?_,?_,?_,?_,?_,?_⟩,?_,.inl ⟨rfl,0,by decide,rfl⟩⟩;·rw[ad1];exact w1
 ·rw[n1,bI,hac]
  refine (her.append_right _).trans ?_;show (_++[(0,1,kR R.abm (R.row P++[R.abl k]) (max a b)),(0,2,kR R.abm (R.row P++[R.abl k]) (max a b))]).Perm (_++(_++[R.abH (P++[k]) (1,(R.row P).length+1,max a b),R.abH (P++[k]) (2,(R.row P).length+1,max a b)])++_++_);rw[Iu,Iu];simp only[bp];refine List.Perm.append_left _ (List.Perm.append_left _ ?_);have L:=bg (l₁:=ad.map R.abO++abo.map R.abK) (l₂:=[(0,1,kR R.abm (R.row P++[R.abl k]) (max a b)),(0,2,kR R.abm (R.row P++[R.abl k]) (max a b))]);simpa only[bp] using L
 ·rw[<-bp]
  refine (bg (l₁:=A'++P) (l₂:=[k])).trans ?_;exact ((hA.append_right P).symm).trans h.acF
 ·rw[List.take_append_of_le_length ap]
  exact h.acR
 ·intro z hz
  rw[fj];rcases List.mem_append.1 hz with hz|hz
  ·have:=h.hac z hz;exact⟨this.1,by omega⟩
  ·simp only[cI,cF,or_false] at hz
   rcases hz with rfl|rfl
   ·exact⟨.inl rfl,bh _⟩
   ·exact⟨.inr rfl,bh _⟩
 ·intro z hz
  rw[fj];have:=h.had z hz;exact⟨this.1,by omega⟩
 ·exact .inr (.inr ⟨(1,(R.row P).length+1,max a b),by simp,rfl,fj.symm⟩)
 ·exact .inr (.inr ⟨(2,(R.row P).length+1,max a b),by simp,rfl,fj.symm⟩)
 ·rw[g1];exact h.ag
 ·have:=h.wt
  rw[fj,bd];simp only[bD,cx];omega
 ·rw[bd]
  simp only[bD,cx];omega
 ·unfold RdP.wt
  rw[fj,bd];simp only[bD,cx];omega
theorem In3.rowAt(h:R.In3 x A P abo D ac ad a b r1 r2 Bd)(T:R.Ok){z:Nat×Nat×Nat}{ac':List (Nat×Nat×Nat)}(hac:ac.Perm (z::ac'))(hi:x.net[i]?=some (R.abH P z)):R.Step x i D (R.wt A P abo ac ad a b):=by
 obtain⟨j,abn,cm⟩:=z;obtain⟨hj,hL⟩:=h.hac _ (hac.mem_iff.2 cj);have hj:j=1∨j=2:=hj;have hL:abn<=(R.row P).length:=hL;have hAl:ac.length=ac'.length+1:=hac.length_eq;obtain⟨Z1,hr2⟩:=h.row T;have a1t:=h.top;have hbd:=h.adq;have XY:=h.w.abQ;have hel:(x.net.eraseIdx i).length<=60:=bB (List.length_eraseIdx_le _ _) (by have:=h.few;omega);obtain⟨r1',e1⟩:=aE (if j=1 then max r1 abn else r1);obtain⟨r2',e2⟩:=aE (if j=2 then max r2 abn else r2);obtain⟨y,d1,w1,n1,g1⟩:=h.w.acQ (j:=j) (abn:=abn) (cm:=cm) hi hj hL hel ap ap e1 e2;obtain⟨r,er⟩:=aE (if j=1 then r1' else r2');rw[<-er] at n1;have QH:r<=(R.row P).length∧(abn=(R.row P).length->r=(R.row P).length):=by
  rcases hj with rfl|rfl
  ·rw[aA rfl] at er e1;omega
  ·rw[aB am] at er;rw[aA rfl] at e2;omega
 have her:(x.net.eraseIdx i).Perm (A.map R.abN++ac'.map (R.abH P)++ad.map R.abO++abo.map R.abK):=by
  have I:=(abL hi).symm.trans h.net;have G:(A.map R.abN++ac.map (R.abH P)++ad.map R.abO++abo.map R.abK).Perm (R.abH P (j,abn,cm)::(A.map R.abN++ac'.map (R.abH P)++ad.map R.abO++abo.map R.abK)):=((((hac.map (R.abH P)).append_left _).trans List.perm_middle).append_right _).append_right _
  exact (List.perm_cons _).1 (I.trans G)
 have adG:∀(ab9 c:Nat),(c=(R.row P).length∨(∃z∈ad,z=(ab9,(R.row P).length))∨∃z∈ac,z.1=ab9∧z.2.1=(R.row P).length)->(c=(R.row P).length∨(∃z∈ad++[(j,r)],z=(ab9,(R.row P).length))∨∃z∈ac',z.1=ab9∧z.2.1=(R.row P).length):=by
  intro ab9 c E;rcases E with E|⟨z,hz,e⟩|⟨z,hz,e,e'⟩
  ·exact .inl E
  ·exact .inr (.inl ⟨z,List.mem_append_left _ hz,e⟩)
  ·rcases List.mem_cons.1 (hac.mem_iff.1 hz) with rfl|hz
   ·have e:j=ab9:=e
    have e':abn=(R.row P).length:=e';exact .inr (.inl ⟨(j,r),by simp,by rw[e,QH.2 e']⟩)
   ·exact .inr (.inr ⟨z,hz,e,e'⟩)
 refine⟨y,_,A,P,abo,D,ac',ad++[(j,r)],a,b,r1',r2',Bd+18000,d1,⟨w1,?_,h.acF,h.acR,h.lo,?_,?_,adG _ _ h.c1,adG _ _ h.c2,?_,?_,?_⟩,?_,.inl ⟨rfl,j,by omega,rfl⟩⟩
 ·rw[n1,bI]
  refine (her.append_right _).trans ?_;show (_++[(j,0,m8 R.abm r)]).Perm (_++_++(_++[(j,0,m8 R.abm r)])++_);simp only[bp];exact List.Perm.append_left _ (List.Perm.append_left _ (List.Perm.append_left _ bg))
 ·exact λz hz=>h.hac z (hac.mem_iff.2 (bR _ hz))
 ·intro z hz
  rcases List.mem_append.1 hz with hz|hz
  ·exact h.had z hz
  ·rw[List.mem_singleton.1 hz];exact⟨hj,QH.1⟩
 ·rw[g1];exact h.ag
 ·have:=h.wt
  rw[bd];simp only[bD,cx];omega
 ·omega
 ·unfold RdP.wt
  rw[bd];simp only[bD,cx];omega
theorem In3.far(h:R.In3 x A P abo D ac ad a b r1 r2 Bd)(T:R.Ok){z:Nat×Nat}{Ze:List (Nat×Nat)}(had:ad.Perm (z::Ze))(hi:x.net[i]?=some (R.abO z)):R.Step x i D (R.wt A P abo ac ad a b):=by
 obtain⟨j,n⟩:=z;obtain⟨hj,hn⟩:=h.had _ (had.mem_iff.2 cj);have hj:j=1∨j=2:=hj;have hn:n<=(R.row P).length:=hn;have hAl:ad.length=Ze.length+1:=had.length_eq;obtain⟨Z1,hr2⟩:=h.row T;have a1t:=h.top;have Vi:=h.lo;have YV:=h.w.ld.ab;have TT:=h.pl;obtain⟨a',ea⟩:=aE (if j=1 then max a n else a);obtain⟨b',eb⟩:=aE (if j=2 then max b n else b);have Bb:max a b<=max a' b'∧max a' b'<=(R.row P).length∧a<=a'∧b<=b':=by rw[ea,eb];split<;>split<;>omega
 obtain⟨y,d1,w1,n1,g1⟩:=h.w.ac6 (j:=j) (n:=n) hi hj hn ea eb (by have:=List.length_eraseIdx_le x.net i;have:=h.few;omega);obtain⟨c,E⟩:=aE (max a b-R.n0);obtain⟨c',XX⟩:=aE (max a' b'-R.n0);have j9:∀C,R.n0<=C->(R.row P).take C=R.es0++(P.take (C-R.n0)).map R.abl:=λC hC=>by unfold RdP.row;rw[List.take_append,bH hC,List.map_take];rfl
 have hm:abE j4.new ((R.row P).take (max a b))=abE j4.new R.es0:=by rw[j9 _ ap,ac1,acT]
 have Z8:((R.row P).take (max a' b')).drop (max a b)=((P.take c').drop c).map R.abl:=by rw[j9 _ ap,<-XX,List.drop_append,cR (show R.es0.length<=max a b from by have:R.es0.length=R.n0:=rfl;omega),ch,List.map_drop];rw[E];rfl
 have hP3:∀k∈(P.take c').drop c,k<3:=λk N=>h.k3 (List.mem_append_right _ (bW (cX N)));rw[hm,Z8,ac7 T _ hP3] at n1;have her:(x.net.eraseIdx i).Perm (A.map R.abN++ac.map (R.abH P)++Ze.map R.abO++abo.map R.abK):=by
  have I:=(abL hi).symm.trans h.net;have G:(A.map R.abN++ac.map (R.abH P)++ad.map R.abO++abo.map R.abK).Perm (R.abO (j,n)::(A.map R.abN++ac.map (R.abH P)++Ze.map R.abO++abo.map R.abK)):=(((had.map R.abO).append_left _).trans List.perm_middle).append_right _
  exact (List.perm_cons _).1 (I.trans G)
 have ig:((P.take c').drop c).length=max a' b'-max a b:=by rw[bO,bn];omega
 refine⟨y,_,A,P,abo++(P.take c').drop c,D,ac,Ze,a',b',r1,r2,Bd,d1,⟨w1,?_,h.acF,?_,by omega,h.hac,?_,?_,?_,?_,?_,h.adq⟩,?_,.inl ⟨rfl,0,by decide,rfl⟩⟩
 ·rw[n1,bI,<-bp]
  exact her.append_right _
 ·rw[<-XX]
  have I:(abo++(P.take c').drop c++D).Perm ((abo++D)++(P.take c').drop c):=by rw[bp,bp];exact List.Perm.append_left _ bg
  have G:P.take c++(P.take c').drop c=P.take c':=by have:=dt c (P.take c');rw[List.take_take,cz ap] at this;exact this
  have L:=h.acR.append_right ((P.take c').drop c);rw[<-E,G] at L;exact I.trans L
 ·exact λz hz=>h.had z (had.mem_iff.2 (bR _ hz))
 ·rcases h.c1 with E|⟨z,hz,e⟩|E
  ·exact .inl ap
  ·rcases List.mem_cons.1 (had.mem_iff.1 hz) with hz|hz
   ·rw[hz] at e
    have eqJ:j=1:=congrArg (·.1) e;have en:n=(R.row P).length:=congrArg (·.2) e;rw[eqJ,aA rfl] at ea;exact .inl ap
   ·exact .inr (.inl ⟨z,hz,e⟩)
  ·exact .inr (.inr E)
 ·rcases h.c2 with E|⟨z,hz,e⟩|E
  ·exact .inl ap
  ·rcases List.mem_cons.1 (had.mem_iff.1 hz) with hz|hz
   ·rw[hz] at e
    have eqJ:j=2:=congrArg (·.1) e;have en:n=(R.row P).length:=congrArg (·.2) e;rw[eqJ,aA rfl] at eb;exact .inl ap
   ·exact .inr (.inl ⟨z,hz,e⟩)
  ·exact .inr (.inr E)
 ·rw[g1];exact h.ag
 ·have:=h.wt
  rw[bd,ig];omega
 ·unfold RdP.wt
  rw[bd,ig];omega
theorem In3.ans(h:R.In3 x A P abo D ac ad a b r1 r2 Bd){Q':aQ}(hQ:abo.Perm (k::Q'))(hi:x.net[i]?=some (R.abK k)):R.Step x i D (R.wt A P abo ac ad a b):=by
 have hAl:abo.length=Q'.length+1:=hQ.length_eq;have m9:k∈P:=bW (h.acR.mem_iff.1 (List.mem_append_left _ (hQ.mem_iff.2 cj)));have N:k<3:=h.k3 (List.mem_append_right _ m9);have pJ:(A++P).Nodup:=h.acF.nodup_iff.2 am;have hnq:(abo++D).Nodup:=h.acR.nodup_iff.2 ((List.nodup_append.1 pJ).2.1.sublist (List.take_sublist _ _));have hkD:k ∉ D:=λhd=>(List.nodup_append.1 hnq).2.2 k (hQ.mem_iff.2 cj) k hd rfl;have Qt:=h.ag k N;rw[aB hkD] at Qt;obtain⟨y,d1,w1,n1,g1⟩:=h.w.ad5 (k:=k) (g:=R.tg k) (c:=8) (m:=R.v k) (id:=(0,0,0)) hi (by rw[Qt.ask];unfold qR;simp);have her:(x.net.eraseIdx i).Perm (A.map R.abN++ac.map (R.abH P)++ad.map R.abO++Q'.map R.abK):=by have I:=(abL hi).symm.trans h.net;have G:(A.map R.abN++ac.map (R.abH P)++ad.map R.abO++abo.map R.abK).Perm (R.abK k::(A.map R.abN++ac.map (R.abH P)++ad.map R.abO++Q'.map R.abK)):=((hQ.map R.abK).append_left _).trans List.perm_middle;exact (List.perm_cons _).1 (I.trans G)
 refine⟨y,_,A,P,Q',k::D,ac,ad,a,b,r1,r2,Bd,d1,⟨w1,by rw[n1];exact her,h.acF,?_,h.lo,h.hac,h.had,h.c1,h.c2,?_,?_,h.adq⟩,?_,.inr ⟨k,N,hkD,rfl,rfl⟩⟩;·exact (List.perm_middle.trans (hQ.append_right D).symm).trans h.acR
 ·intro k' qY
  rw[g1];by_cases e:k'=k
  ·subst e
   rw[nK,aA cj];exact Qt.seen
  ·rw[abC _ _ e]
   have:=h.ag k' qY;by_cases hd:k'∈D
   ·rw[aA hd] at this
    rw[aA (bR _ hd)];exact this
   ·rw[aB hd] at this
    rw[aB (λE=>(List.mem_cons.1 E).elim e hd)];exact this
 ·have:=h.wt
  omega
 ·unfold RdP.wt
  omega
theorem In3.step(h:R.In3 x A P abo D ac ad a b r1 r2 Bd)(T:R.Ok)(hi:i<x.net.length):R.Step x i D (R.wt A P abo ac ad a b):=by
 obtain⟨l,hl⟩:∃l,x.net[i]?=some l:=⟨_,List.getElem?_eq_getElem hi⟩;have hm:=h.net.mem_iff.1 (List.mem_of_getElem? hl);rcases List.mem_append.1 hm with hm|hm
 ·rcases List.mem_append.1 hm with hm|hm
  ·rcases List.mem_append.1 hm with hm|hm
   ·obtain⟨k,A',e,hA⟩:=abW hm
    exact h.ask T hA (by rw[hl,e])
   ·obtain⟨z,ac',e,hA⟩:=abW hm
    exact h.rowAt T hA (by rw[hl,e])
  ·obtain⟨z,Ze,e,hA⟩:=abW hm
   exact h.far T hA (by rw[hl,e])
 ·obtain⟨k,Q',e,hA⟩:=abW hm
  exact h.ans hA (by rw[hl,e])
theorem In3.end_(h:R.In3 x A P abo D ac ad a b r1 r2 Bd)(T:R.Ok)(hn:x.net.length=0):D.Perm [0,1,2]:=by
 have hl:=h.len;have hA:A=[]:=bu ap;have hac:ac=[]:=bu ap;have had:ad=[]:=bu ap;have hQ:abo=[]:=bu ap;subst hA hac had hQ;have ha:a=(R.row P).length:=by
  rcases h.c1 with h|⟨z,hz,_⟩|⟨z,hz,_⟩
  ·exact h
  ·cases hz
  ·cases hz
 have a1t:=h.top;obtain⟨_,hr2⟩:=h.row T;have hqd:=h.acR;rw[bH ap,ch] at hqd;exact hqd.trans h.acF
end RdP
end Go.Proofs.YtpeepcmdehhbgaaGreatDoor
end
namespace Go.Proofs.YtpeepcmdehhbgaaGreatDoor
open RowKit Hop V
theorem at_at{α:Type}(f:Nat->α)(i:Nat)(y z:α):at_ (at_ f i y) i z=at_ f i z:=funext λj=>by unfold at_;split<;>rfl
structure setW(p:WS)(es:List En)(abm Bd B:Nat)(abp:Nat->Nat):Prop where
 w:abA p.1 es es.length es.length es.length es.length abm Bd
 net:p.1.net=[]
 ag:∀j,j<3->abD (3+j) 3 (p.1.ag j) (abp j) [] [] [] [] B
theorem setW.begun:setW (jP 3 3) [] 3 100 100 (λ_=>0):=by obtain⟨I,G,L,_⟩:=abA.begun;exact⟨I,G,λj _=>by rw[L];exact abD.new _ _⟩
def abG(x:Wl)(i:Nat)(d:Dl):Wl:=((x.gI i d).fU i).jy i 1
@[irreducible] def abM(i:Nat)(d:Dl)(p:WS):WS:=vJ (abG p.1 i d,p.2)
theorem acp(i:Nat)(d:Dl)(p:WS):abM i d p=((eY (-1) 400 ⟨0,abG p.1 i d,p.2,none⟩).x,(eY (-1) 400 ⟨0,abG p.1 i d,p.2,none⟩).s):=by unfold abM;exact Io _ _
theorem ada{nd tg:Nat}{d:Dl}(pJ:nd<8)(hd:DS d)(hn:1<=n∧n<=9223372036854775807)(ht:tg<=9223372036854775807):M8 (enG nd n d tg):=by
 have h0:=Cr hd hn ht;refine⟨⟨⟨⟨by show (0:Int)<=(nd:Int);omega,by show (nd:Int)<8;omega⟩,h0.1.1.2⟩,.inl ?_⟩,?_⟩
 ·rcases h0.1.2 with h|h
  ·obtain⟨_,_,_,a2,a3,a4,a5,a6⟩:=h
   exact⟨rfl,rfl,⟨by show (0:Int)<=(nd:Int);omega,by show (nd:Int)<8;omega⟩,a2,a3,a4,a5,a6⟩
  ·exact absurd h.1 (show ¬ (1:Int)=2 by decide)
 ·have I:=eE (n:=nd) ap
  have G:=eE (n:=tg) ap;have L:=a1e (a:=nd) (b:=0) (c:=n) (d:=1) (e:=1) ap am ap am am;have h4:=Il hd;have h5:(o7 [d]).length=(dB d).length:=by simp[o7]
  have e:pg (enG nd n d tg)=[UInt8.ofNat 1]++enc nd++enc tg++([nd,0,n,1,1].flatMap enc)++o7 [d]:=by unfold pg enG;rw[aB (show ¬ (1:Int)=2 by decide)];simp
  rw[e];simp only[bd,bv];omega
theorem abA.sent(h:abA x es a b r1 r2 abm Bd){y:Ag}{e:En}(he:M8 e)(hn:x.net.length<60):abA ((x.jx i y).send (x.nr+i) [((0:Int),gp e)]) es a b r1 r2 abm Bd∧((x.jx i y).send (x.nr+i) [((0:Int),gp e)]).net=x.net++[(3+i,0,gp e)]:=by
 refine⟨⟨h.nr,h.na,h.cut,h.ld,h.f1,h.f2,h.abQ,h.fr⟩,?_⟩;show il (x.nr+x.na) (x.nr+i) x.net [((0:Int),gp e)]=_;rw[h.nr,h.na,abJ 6 (3+i) [((0:Int),gp e)] x.net (λq hq=>by rw[List.mem_singleton.1 hq];exact⟨EV he,by show (0:Int)<=0;decide,by show (0:Int)<6;decide⟩) (by simp;omega)]
 rfl
theorem setW.nQ{p:WS}{abp:Nat->Nat}(h:setW p es abm Bd B abp)(hi:i<3){d:Dl}(hd:DS d)(hN:abp i<900000)(hB:B<=900000)(ht:(p.1.ag i).tag<9223372036854775807):∃(t:Nat×Nat)(tg:Nat)(y:Ag),tg<=9223372036854775807∧abA (abG p.1 i d) es es.length es.length es.length es.length abm Bd∧(abG p.1 i d).net=[(3+i,0,gp (enG (3+i) (abp i+1) d tg))]∧(abG p.1 i d).ag=at_ p.1.ag i y∧abD (3+i) 3 y (abp i+1) [] [(((abp i+1:Nat):Int),[d])] [(idG (3+i) (abp i+1),t)] [((tg:Int),idG (3+i) (abp i+1))] (B+200)∧((p.1.ag i).fX d).2=0:=by
 obtain⟨a1,a2⟩:=(h.ag i hi).fX ap hd (SW.TH hd);have c1:=(a1.cut ap ap hd (d:=d) rfl (λz hz=>by rw[List.mem_singleton.1 (show z∈[d] from hz)])).1;have Yo:((((p.1.ag i).fX d).1).cut.1).tag=(p.1.ag i).tag:=by rw[(Ag.nN.cut _).tag,(Ag.nN.fX _ _).tag]
 obtain⟨t,k1,k2⟩:=c1.tick (ds':=d) rfl;rw[Yo] at k1 k2;have e0:(p.1.gI i d).ag=at_ p.1.ag i ((p.1.ag i).fX d).1:=rfl;have e1:((p.1.gI i d).fU i).ag=at_ p.1.ag i (((p.1.ag i).fX d).1).cut.1:=by show at_ (p.1.gI i d).ag i ((p.1.gI i d).ag i).cut.1=_;rw[e0,nK,at_at]
 have e2:((p.1.gI i d).fU i).ag i=(((p.1.ag i).fX d).1).cut.1:=by rw[e1,nK]
 have w2:abA ((p.1.gI i d).fU i) es es.length es.length es.length es.length abm Bd:=⟨h.w.nr,h.w.na,h.w.cut,h.w.ld,h.w.f1,h.w.f2,h.w.abQ,h.w.fr⟩;have n2:((p.1.gI i d).fU i).net=[]:=h.net;have hX:abG p.1 i d=(((p.1.gI i d).fU i).jx i ((((p.1.ag i).fX d).1).cut.1.f_ 1 []).1).send (((p.1.gI i d).fU i).nr+i) [((0:Int),gp (enG (3+i) (abp i+1) d ((p.1.ag i).tag+1)))]:=by unfold abG Wl.jy;rw[e2,k2]
 obtain⟨w3,n3⟩:=w2.sent (i:=i) (y:=((((p.1.ag i).fX d).1).cut.1.f_ 1 []).1) (ada (nd:=3+i) (n:=abp i+1) (tg:=(p.1.ag i).tag+1) ap hd ⟨by omega,by omega⟩ ap) (by rw[n2];decide);rw[<-hX] at w3 n3;refine⟨t,(p.1.ag i).tag+1,_,by omega,w3,by rw[n3,n2];rfl,?_,k1,a2⟩;rw[hX];show at_ ((p.1.gI i d).fU i).ag i _=_;rw[e1,at_at]
set_option maxRecDepth 100000
set_option maxHeartbeats 1000000
def kL:ByteArray:=⟨#[97,61,49]⟩
theorem XN:abn.fW kL=0:=by decide +kernel
theorem dA7:DS (kL,7):=⟨XN,⟨by decide,by decide⟩,by decide⟩
theorem sA7:(ei j4.new (lQ 1 (kL,7) 0)).1=((1:Nat):Int)∧(ei j4.new (lQ 1 (kL,7) 0)).2.1=0:=by constructor<;>decide +kernel
theorem EY{V:aV}{w0 w:X}{abq s M abn nr na:Nat}{p:WS}{l:List Bl}(hS:St V w0 (mZ abq s p++l) w)(hp:gY p nr na M abn)(hL:abn<=1000000):dz W 36 #[s] w λe O=>∃(A:aU)(c:Nat),e=b5 (Z A p.2.ak.length c)∧St V w0 (.o (qz (Z A p.2.ak.length c) p.2.ak)::(mZ abq s p++l)) O:=by have I:St V w0 ([.o (fR s p.2)]++(.o (iw abq p.1)::l)) w:=hS.front 1 rfl;have:=St.call (a:=[.o (fR s p.2)]) (b := .o (iw abq p.1)::l) I (a':=λj:Option dA×Nat=>[Bl.o (qz (Z j.1 p.2.ak.length j.2) p.2.ak),Bl.o (fR s p.2)]) (λ_=>⟨qz.framed _ _,fR.framed _ _,trivial⟩) I.no (Ij w (λ_=>False) s p.2 (by have:=hp.len;omega));exact this.mono λe O ⟨j,I,G⟩=>⟨j.1,j.2,I,G.perm (List.Perm.cons _ (List.Perm.swap _ _ _))⟩
theorem TJ(w:X):Lw W (λ_=>False) 24 #[] [] (λ(_:Unit)e=>e=b5 (aY true)) (λ_=>[]) w:=by
 intro V hM hV;have fN:St V w ([]++[]) w:=St.begin_ hM (λb hb=>(hV b hb).1) trivial;have hB:=St.call (a:=[]) (b:=[]) fN (a':=λi:Nat×Nat=>mZ i.1 i.2 (jP 1 1)) (λ_=>pu _ _ _) fN.no (JO w 1 1 am am am vm);have hB:dz W 26 #[J 1,J 1] w _:=hB;obtain⟨p,HP⟩:=az (jP 1 1);have hp:=yF (nr:=1) (na:=1) am am;have hw:=SW.begun;rw[<-HP.out] at hB hp hw;obtain⟨tg,g1,g2⟩:=hw.1.give dA7 am (bo _) am am (yI hp am) (c:=1) sA7.1 (.inl rfl) sA7.2;go_in;go_wp2_with fail;refine hB.mono ?_;rintro e w1 ⟨⟨abq,s⟩,rfl,ej⟩;have ej:St V w (mZ abq s p++[]) w1:=ej;obtain⟨hG,hq⟩:=TI ej hp am am hw.1 dA7 am am am;have hG:dz W 28 #[abq,s,J 1,aX ⟨#[97,61,49]⟩,J 7] w1 _:=hG;obtain⟨q,HQ⟩:=az (tQ (kL,7) p);rw[<-HQ.out] at hG hq g1;have fj:q.2.ak.length=1:=by rw[g1,hw.2];rfl
 go_wp2_with fail;refine hG.mono ?_;rintro e w2 ⟨rfl,dV⟩;have hA:=EY dV hq am;rw[fj] at hA;go_wp2_with fail;refine hA.mono ?_;rintro e w3 ⟨A,c,rfl,dX⟩;go_wp2;go_ret;obtain⟨r1,r2⟩:=(St.drop (St.drop (St.drop dX))).fin;exact⟨(),rfl,r1,r2⟩
structure Au where
 (now tag c at_:Nat)
def Au.due(u:Au):Bool:=decide (u.c=0)||decide (u.at_<=u.now+1)
def Au.next(u:Au):Au:=if u.due then ⟨u.now+1,u.tag+1,u.c+1,u.now+1+rD (u.tag+1) u.c⟩ else ⟨u.now+1,u.tag,u.c,u.at_⟩
def Au.run:Nat->Au->List Nat->Au×List Nat
 | 0,u,l=>(u,l)
 | r+1,u,l=>Au.run r u.next (if u.due then l++[u.tag+1] else l)
namespace SA
variable{a:Ag}{eP:List Dl}{q:List abo.Ab}{tr:List (lp×(Nat×Nat))}{ask:List (Int×lp)}
theorem Hc(h:SA a n eP q tr ask B)(m:Nat):SA { a with now:=m } n eP q tr ask B:=⟨h.node,h.eX,h.last,h.ep,h.eP,h.sh,h.q,h.tr,h.ask,h.bs⟩
end SA
end Go.Proofs.YtpeepcmdehhbgaaGreatDoor
section
namespace Go.Proofs.YtpeepcmdehhbgaaGreatDoor
open Go.RowKit Go.Hop V
namespace SW
variable{ms:j4}{eP:List Dl}{q:List abo.Ab}{tr:List (lp×(Nat×Nat))}{ask:List (Int×lp)}{rest:List Lt3}
theorem lead(h:SW x es ms abm Bd n eP q tr ask B [])(pL:Bd<=1000000)(hn:es.length<=51)(hT:abm<1000000):SW (x.gH 0) es ms (abm+1) (Bd+36000) n eP q tr ask B []:=by
 obtain⟨I,G⟩:=h.rp.again pL hn hT;have Y:x.gH 0=x.qv 0 ((x.rp 0).lead).1:=by show (x.qv 0 ((x.rp 0).lead).1).send 0 ((x.rp 0).lead).2=_;rw[G];rfl
 rw[Y];refine⟨h.nr,h.na,h.cut,h.net,?_,h.ag⟩;show SR (at_ x.rp 0 ((x.rp 0).lead).1 0) _ _ _ _;rw[nK];exact I
end SW
end Go.Proofs.YtpeepcmdehhbgaaGreatDoor
end
namespace Go.Proofs.YtpeepcmdehhbgaaGreatDoor
open RowKit Hop V
theorem XS{x:j4}{e:En}(I:e.k≠2)(G:abq.seen (x.at_ e).F (x.at_ e).M e.sq=false)(L:¬ e.ep<Ec x.fQ e.ag)(h4:abq.far (x.at_ e).F e.sq=false)(h5:abk.iV x.q e.ds=0):ei x e=(1,0,⟨abk.nj x.q e.ds,tC x.fQ e.ag e.ep,i_ x.pl (e.ag,e.sh) ⟨(abq.ij (x.at_ e).F (x.at_ e).M e.sq).1,(abq.ij (x.at_ e).F (x.at_ e).M e.sq).2,(x.at_ e).B⟩⟩):=by unfold ei;rw[aB I,aB (by rw[G];simp),aB L,aB (by rw[h4];simp),aA h5]
theorem a1h(h:m<=18446744073709551615):abk.iV [] [(kL,m)]=0:=by
 unfold abk.iV;have I:abk.i7 [] [] [(kL,m)]=true:=by show (decide (0+m+0<=abk.o6)&&true)=true;rw[aC (show 0+m+0<=abk.o6 by unfold abk.o6;omega)];rfl
 rw[aA I,aB];exact (by decide:¬ (1 > 16))
end Go.Proofs.YtpeepcmdehhbgaaGreatDoor
end
