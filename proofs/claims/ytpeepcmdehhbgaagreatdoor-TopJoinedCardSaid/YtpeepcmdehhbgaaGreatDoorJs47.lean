/- So6, So7, So8, So9, Tj1, Tj2, Tj3. -/
import Derived.Test.YtpeepcmdehhbgaaGreatDoorJs46
import Derived.Laws.Bits128
set_option linter.all false
set_option maxRecDepth 100000
open Go.Value renaming int->ae,slice->Z,string->aX,bool->aY,agg->aZ,tuple->a_
open Go.Ending renaming returned->b5
open Go.IntKind renaming i64->af,u64->ah
open Go (J az aE aA aB aC aD ay aj am ap aw aL aK aJ aI aH aV aU aT aR aQ aP aO aN)
open Go.Proofs.Tryz renaming prog->W
open Go.Lib renaming hid->Q
open List renaming length_append->bd,perm_append_comm->bg,length_map->bj,append_nil->bm,eq_nil_of_length_eq_zero->bu,map_append->bI
open Nat renaming le_of_ble_eq_true->bf,le_refl->bh,zero_le->bo,le_trans->bB,min_eq_left->cz
open Go renaming World->X,Calls->dz,Addr->dA
open Go.Hop (Bl)
open Go.Proofs.YtpeepcmdehhbgaaGreatDoor (Dl En WS j4 lp)
variable{p:WS}{n B abm Bd M s c k g1 g2 g3 g4 m:Nat}{es:List En}{ms:j4}{d:Dl}{tr:List (lp×(Nat×Nat))}{w0 w:X}{l:List Bl}{eP:List Dl}{V:aV}{gs ns:aQ}{node:Int}
namespace Go.Proofs.YtpeepcmdehhbgaaGreatDoor
open RowKit Hop V
theorem Io(x:Wl)(t:iN):vJ (x,t)=((eY (-1) 400 ⟨0,x,t,none⟩).x,(eY (-1) 400 ⟨0,x,t,none⟩).s):=by unfold vJ;rfl
theorem EW(d:Dl)(p:WS):tQ d p=((eY (-1) 400 ⟨0,nQ p.1 d,p.2,none⟩).x,(eY (-1) 400 ⟨0,nQ p.1 d,p.2,none⟩).s):=by unfold tQ;exact Io _ _
theorem EX(ms:j4)(n:Nat)(d:Dl)(tg:Nat):ei ms (lQ n d tg)=ei ms (lQ n d 0):=rfl
theorem yI{abn:Nat}(h:gY p 1 1 M abn)(hM:M<=1048576):(p.1.ag 0).tag<9223372036854775807:=by have:=(h.good.ag 0 (by rw[h.na];decide)).ti.tm.tag;omega
theorem SW.give(h:SW p.1 es ms abm Bd n [] [] [] [] B [])(hd:DS d)(pL:Bd<=1000000)(CP:es.length<=50)(hn:n<900000)(hB:B<=900000)(ht:(p.1.ag 0).tag<9223372036854775807)(E:(ei ms (lQ (n+1) d 0)).1=(c:Int))(sy:c=1∨c=2∨c=3)(hm:(ei ms (lQ (n+1) d 0)).2.1=0):∃tg,(tQ d p).2=p.2.told c (ku (n+1)) 0∧SW (tQ d p).1 (es++[lQ (n+1) d tg]) (ei ms (lQ (n+1) d 0)).2.2 abm (Bd+18000) (n+1) [] [] [] [] (B+300) []:=by
 obtain⟨t,tg,KS,I,_⟩:=h.nQ hd ap hB ht;have za:c<=255:=by omega
 have Yb:∀a,SA a (n+1) [] [(((n+1:Nat):Int),[d])] [(ku (n+1),t)] [((tg:Int),ku (n+1))] (B+200)->SA (a.took 0 tg c) (n+1) [] [] [] [] (B+300):=λa ha=>ha.done ap ap ap sy;obtain⟨y,G,L⟩:=I.two pL CP (Cr hd ⟨by omega,by omega⟩ KS) rfl rfl KS (c:=c) E za (m:=0) hm am Yb (-1) 398 0 p.2 none;refine⟨tg,?_⟩;have G:eY (-1) 400 ⟨0,Go.Proofs.YtpeepcmdehhbgaaGreatDoor.nQ p.1 d,p.2,none⟩=_:=G;rw[EW,G];exact⟨rfl,L⟩
theorem Q8{abq:Nat}{abn:Nat}(hp:gY p 1 1 M abn)(hM:M<=1000000)(h:SW p.1 es ms abm Bd n [] [] [] [] B [])(hd:DS d)(Ye:d.2<=9223372036854775807)(hn:n<900000)(hB:B<=900000):kr abq p.1 p.2 (EO 1 (d.2:Int) d.1) true (nQ p.1 d) p.2∧gY (nQ p.1 d,p.2) 1 1 (M+1) abn:=by
 obtain⟨_,_,_,_,hi⟩:=h.nQ hd ap hB (yI hp ap);have h0:0<p.1.na:=by rw[hp.na];decide
 have g1:=hp.good.gI h0 (d:=d) ap;have g2:=g1.fU h0;have g3:=g2.jy ap h0 (n:=1) am;have a1:=hp.good.EM (abq:=abq) h0 0 (n:=d.2) (s:=d.1) (by have:=hd.s;omega) Ye;rw[hp.nr] at a1;have a2:=g1.Ck (abq:=abq) (x:=p.1.gI 0 d) h0 0 0 ⟨#[]⟩;rw[show (p.1.gI 0 d).nr=1 from hp.nr] at a2;have a3:=g2.JH (abq:=abq) (x:=(p.1.gI 0 d).fU 0) ap h0 0 (n:=1) ⟨#[]⟩ ⟨by decide,by decide⟩;rw[show ((p.1.gI 0 d).fU 0).nr=1 from hp.nr] at a3;refine⟨?_,g3,hp.ok,hp.len,hp.nr,hp.na⟩;refine kr.ok (x':=p.1.gI 0 d) a1 hi (show (0:Nat)<18446744073709551616 by decide) ?_;refine kr.ok (x':=(p.1.gI 0 d).fU 0) a2 rfl (show (0:Nat)<18446744073709551616 by decide) ?_;refine kr.ok (x':=nQ p.1 d) a3 rfl (show (0:Nat)<18446744073709551616 by decide) ?_;exact kr.nil _ _
theorem SW.begun:SW (jP 1 1).1 [] j4.new 1 100 0 [] [] [] [] 100 []∧(jP 1 1).2=iN.new:=by
 obtain⟨I,G⟩:=SR.begin_;have Y:(Wl.new 1 1).gH 0=(Wl.new 1 1).qv 0 ((Rp.open_ 0 1 []).lead).1:=by show ((Wl.new 1 1).qv 0 ((Rp.open_ 0 1 []).lead).1).send 0 ((Rp.open_ 0 1 []).lead).2=_;rw[G];rfl
 have hn:((Wl.new 1 1).gH 0).net.length=0:=by rw[Y];rfl
 unfold jP;rw[ls (-1) (d:=⟨0,(Wl.new 1 1).gH 0,iN.new,none⟩) hn];refine⟨?_,rfl⟩;show SW ((Wl.new 1 1).gH 0) _ _ _ _ _ _ _ _ _ _ _;rw[Y];refine⟨rfl,rfl,rfl,rfl,?_,SA.new⟩;show SR (at_ (Wl.new 1 1).rp 0 _ 0) _ _ _ _;rw[nK];exact I
theorem vm:((jP 1 1).1.rp 0).leads=true:=SW.begun.1.rp.leads
theorem TI{abq abn:Nat}(hS:St V w0 (mZ abq s p++l) w)(hp:gY p 1 1 M abn)(hM:M<=1000000)(hL:abn<=900000)(h:SW p.1 es ms abm Bd n [] [] [] [] B [])(hd:DS d)(Ye:d.2<=9223372036854775807)(hn:n<900000)(hB:B<=900000):(dz W 28 #[abq,s,J 1,aX d.1,J d.2] w λe O=>e=b5 (aY true)∧St V w0 (mZ abq s (tQ d p)++l) O)∧gY (tQ d p) 1 1 (M+1) (abn+400):=by
 obtain⟨hr,H⟩:=Q8 (abq:=abq) hp hM h hd Ye hn hB;have hq:gY (tQ d p) 1 1 (M+1) (abn+400):=by unfold tQ;exact H.YN
 refine⟨?_,hq⟩;have a29:(nQ p.1 d).Good (M+1):=H.good;have fj:=hp.len;have hG:=XH w (λ_=>False) abq s (M+1) p.1 (nQ p.1 d) p.2 p.2 1 (d.2:Int) d.1 hr hp.ok hp.ok a29 ap ap;have e:=EW d p;generalize eY (-1) 400 ⟨0,nQ p.1 d,p.2,none⟩=R at hG e;rw[e];have:=St.call (a:=mZ abq s p) (a':=λ(_:Unit)=>mZ abq s (R.x,R.s)) hS (λ_=>pu _ _ _) hS.no hG;exact this.mono λe O ⟨_,I,G⟩=>⟨I,G⟩
set_option maxRecDepth 100000
set_option maxHeartbeats 1000000
def kL:ByteArray:=⟨#[97,61,49]⟩
theorem XN:abn.fW kL=0:=by decide +kernel
theorem dA7:DS (kL,7):=⟨XN,⟨by decide,by decide⟩,by decide⟩
theorem sA7:(ei j4.new (lQ 1 (kL,7) 0)).1=((1:Nat):Int)∧(ei j4.new (lQ 1 (kL,7) 0)).2.1=0:=by constructor<;>decide +kernel
theorem EY{abq abn nr na:Nat}(hS:St V w0 (mZ abq s p++l) w)(hp:gY p nr na M abn)(hL:abn<=1000000):dz W 36 #[s] w λe O=>∃(A:aU)(c:Nat),e=b5 (Z A p.2.ak.length c)∧St V w0 (.o (qz (Z A p.2.ak.length c) p.2.ak)::(mZ abq s p++l)) O:=by have I:St V w0 ([.o (fR s p.2)]++(.o (iw abq p.1)::l)) w:=hS.front 1 rfl;have:=St.call (a:=[.o (fR s p.2)]) (b := .o (iw abq p.1)::l) I (a':=λj:Option dA×Nat=>[Bl.o (qz (Z j.1 p.2.ak.length j.2) p.2.ak),Bl.o (fR s p.2)]) (λ_=>⟨qz.framed _ _,fR.framed _ _,trivial⟩) I.no (Ij w (λ_=>False) s p.2 (by have:=hp.len;omega));exact this.mono λe O ⟨j,I,G⟩=>⟨j.1,j.2,I,G.perm (List.Perm.cons _ (List.Perm.swap _ _ _))⟩
theorem TJ(w:X):Lw W (λ_=>False) 24 #[] [] (λ(_:Unit)e=>e=b5 (aY true)) (λ_=>[]) w:=by
 intro V hM hV;have fN:St V w ([]++[]) w:=St.begin_ hM (λb hb=>(hV b hb).1) trivial;have hB:=St.call (a:=[]) (b:=[]) fN (a':=λi:Nat×Nat=>mZ i.1 i.2 (jP 1 1)) (λ_=>pu _ _ _) fN.no (JO w 1 1 am am am vm);have hB:dz W 26 #[J 1,J 1] w _:=hB;obtain⟨p,HP⟩:=az (jP 1 1);have hp:=yF (nr:=1) (na:=1) am am;have hw:=SW.begun;rw[<-HP.out] at hB hp hw;obtain⟨tg,g1,g2⟩:=hw.1.give dA7 am (bo _) am am (yI hp am) (c:=1) sA7.1 (.inl rfl) sA7.2;go_in;go_wp2_with fail;refine hB.mono ?_;rintro e w1 ⟨⟨abq,s⟩,rfl,ej⟩;have ej:St V w (mZ abq s p++[]) w1:=ej;obtain⟨hG,hq⟩:=TI ej hp am am hw.1 dA7 am am am;have hG:dz W 28 #[abq,s,J 1,aX ⟨#[97,61,49]⟩,J 7] w1 _:=hG;obtain⟨q,HQ⟩:=az (tQ (kL,7) p);rw[<-HQ.out] at hG hq g1;have fj:q.2.ak.length=1:=by rw[g1,hw.2];rfl
 go_wp2_with fail;refine hG.mono ?_;rintro e w2 ⟨rfl,dV⟩;have hA:=EY dV hq am;rw[fj] at hA;go_wp2_with fail;refine hA.mono ?_;rintro e w3 ⟨A,c,rfl,dX⟩;go_wp2;go_ret;obtain⟨r1,r2⟩:=(St.drop (St.drop (St.drop dX))).fin;exact⟨(),rfl,r1,r2⟩
structure Au where
 (now tag c at_:Nat)
def Au.due(u:Au):Bool:=decide (u.c=0)||decide (u.at_<=u.now+1)
def Au.next(u:Au):Au:=if u.due then ⟨u.now+1,u.tag+1,u.c+1,u.now+1+rD (u.tag+1) u.c⟩ else ⟨u.now+1,u.tag,u.c,u.at_⟩
def Au.run:Nat->Au->List Nat->Au×List Nat
 | 0,u,l=>(u,l)
 | r+1,u,l=>Au.run r u.next (if u.due then l++[u.tag+1] else l)
def EZ(n c at_:Nat):List (lp×(Nat×Nat)):=if c=0 then [] else [(ku n,(c,at_))]
def uR(n:Nat)(gs:aQ):List (Int×lp):=gs.map λg:Nat=>((g:Int),ku n)
def Cs(n:Nat)(d:Dl)(gs:aQ):Sends:=gs.map λg=>((0:Int),gp (lQ n d g))
namespace SA
variable{a:Ag}{q:List abo.Ab}{ask:List (Int×lp)}
theorem TK(h:SA a n eP [] tr ask B)(out:Sends):a.lN out=({ a with now:=a.now+1 },out):=by
 have hz:∀k,k<4->((({ a with now:=a.now+1 }:Ag).b.qu k).l.take 4)=[]:=λk N=>by
  show (a.b.qu k).l.take 4=[];by_cases h0:k=0;·subst h0;rw[h.Q2];rfl
  ·rw[h.XM (k:=k) ap];rfl
 show Ag.fZ [0,1,2,3] { a with now:=a.now+1 } out=_;show Ag.fZ [1,2,3] (Ag.ff 0 (((({ a with now:=a.now+1 }:Ag).b.qu 0).l.take 4)) _ out).1 (Ag.ff 0 (((({ a with now:=a.now+1 }:Ag).b.qu 0).l.take 4)) _ out).2=_;rw[hz 0 am];show Ag.fZ [2,3] (Ag.ff 1 (((({ a with now:=a.now+1 }:Ag).b.qu 1).l.take 4)) _ out).1 (Ag.ff 1 (((({ a with now:=a.now+1 }:Ag).b.qu 1).l.take 4)) _ out).2=_;rw[hz 1 am];show Ag.fZ [3] (Ag.ff 2 (((({ a with now:=a.now+1 }:Ag).b.qu 2).l.take 4)) _ out).1 (Ag.ff 2 (((({ a with now:=a.now+1 }:Ag).b.qu 2).l.take 4)) _ out).2=_;rw[hz 2 am];show Ag.fZ [] (Ag.ff 3 (((({ a with now:=a.now+1 }:Ag).b.qu 3).l.take 4)) _ out).1 (Ag.ff 3 (((({ a with now:=a.now+1 }:Ag).b.qu 3).l.take 4)) _ out).2=_;rw[hz 3 am];rfl
theorem Hc(h:SA a n eP q tr ask B)(m:Nat):SA { a with now:=m } n eP q tr ask B:=⟨h.node,h.eX,h.last,h.ep,h.eP,h.sh,h.q,h.tr,h.ask,h.bs⟩
theorem E_:∀(r:Nat){a:Ag}(out:Sends),SA a n eP [] tr ask B->SA (a.f_ r out).1 n eP [] tr ask B∧(a.f_ r out).2=out
 | 0,_,_,h=>⟨h,rfl⟩
 | r+1,a,out,h=>by
   unfold Ag.f_;rw[h.TK out];exact E_ r out (h.Hc _)
theorem Q9{κ α:Type}[DecidableEq κ]{l:List (κ×α)}{k:κ}{v:α}(h:k ∉ l.map Prod.fst):si l k v=l++[(k,v)]:=aB h
theorem TL{u:Au}(h:SA a n eP [((n:Int),[d])] (EZ n u.c u.at_) (uR n gs) B)(I:a.now=u.now)(G:a.tag=u.tag)(H:∀g∈gs,g<=u.tag)(out:Sends):SA (a.lN out).1 n eP [((n:Int),[d])] (EZ n u.next.c u.next.at_) (uR n (if u.due then gs++[u.tag+1] else gs)) B∧(a.lN out).1.now=u.next.now∧(a.lN out).1.tag=u.next.tag∧(a.lN out).2=out++(if u.due then Cs n d [u.tag+1] else []):=by
 obtain⟨b,HB⟩:=az (({ a with now:=a.now+1 }:Ag));have hb:SA b n eP [((n:Int),[d])] (EZ n u.c u.at_) (uR n gs) B:=by rw[HB.out];exact h.Hc _
 have z7:b.now=u.now+1:=by rw[HB.out];show a.now+1=_;rw[I]
 have Bh:b.tag=u.tag:=by rw[HB.out];exact G
 have yU:(b.b.qu 0).l.take 4=[((n:Int),[d])]:=by rw[hb.Q2];rfl
 have hid:b.iX 0 (n:Int)=ku n:=by show ((b.node:Int),((0:Nat):Int),(n:Int))=_;rw[hb.node];rfl
 have Vo:b.tries (ku n)=if u.c=0 then (0,0) else (u.c,u.at_):=by
  show (qR b.tr (ku n)).getD (0,0)=_;rw[hb.tr];unfold EZ;split;·rfl
  ·unfold qR;simp
 have a1f:((b.tries (b.iX 0 (n:Int))).1=0∨(b.tries (b.iX 0 (n:Int))).2<=b.now)↔u.due=true:=by
  rw[hid,Vo,z7];unfold Au.due;by_cases h0:u.c=0;·simp[h0]
  ·simp[h0]
 have hE:b.tI (ku n) [d]=lQ n d (u.tag+1):=by show (⟨1,1,0,(n:Int),b.b.ep,[d],⟨#[]⟩,(b.node:Int),((b.tag+1:Nat):Int)⟩:En)=_;rw[hb.ep,hb.node,Bh];rfl
 have Fu:∀m,b.to m=0:=λm=>by show (b.last+m) % b.eX=0;rw[hb.eX];exact Nat.mod_one _
 by_cases hd:u.due=true
 ·obtain⟨c,HC⟩:=az (b.send (ku n) (b.tries (ku n)))
  have ky:Ag.ff 0 [((n:Int),[d])] b out=(c,out++Cs n d [u.tag+1]):=by show (if (b.tries (b.iX 0 (n:Int))).1=0∨(b.tries (b.iX 0 (n:Int))).2<=b.now then _ else _)=_;rw[aA (a1f.2 hd)];show (b.send (b.iX 0 (n:Int)) (b.tries (b.iX 0 (n:Int))),out++[(((b.to (b.tries (b.iX 0 (n:Int))).1:Nat):Int),gp (b.tI (b.iX 0 (n:Int)) [d]))])=_;rw[hid,Fu,hE,HC.out];rfl
  have Fl:c.b=b.b:=by rw[HC.out];rfl
  have kS:∀k,k=1∨k=2∨k=3->(c.b.qu k).l.take 4=[]:=λk N=>by rw[Fl,hb.XM N];rfl
  have Ir:a.lN out=(c,out++Cs n d [u.tag+1]):=by show Ag.fZ [0,1,2,3] { a with now:=a.now+1 } out=_;rw[<-HB.out];show Ag.fZ [1,2,3] (Ag.ff 0 ((b.b.qu 0).l.take 4) b out).1 (Ag.ff 0 ((b.b.qu 0).l.take 4) b out).2=_;rw[yU,ky];show Ag.fZ [2,3] (Ag.ff 1 ((c.b.qu 1).l.take 4) c _).1 (Ag.ff 1 ((c.b.qu 1).l.take 4) c _).2=_;rw[kS 1 (by simp)];show Ag.fZ [3] (Ag.ff 2 ((c.b.qu 2).l.take 4) c _).1 (Ag.ff 2 ((c.b.qu 2).l.take 4) c _).2=_;rw[kS 2 (by simp)];show Ag.fZ [] (Ag.ff 3 ((c.b.qu 3).l.take 4) c _).1 (Ag.ff 3 ((c.b.qu 3).l.take 4) c _).2=_;rw[kS 3 (by simp)];rfl
  have Fy:u.next=⟨u.now+1,u.tag+1,u.c+1,u.now+1+rD (u.tag+1) u.c⟩:=aA hd;rw[Ir,Fy,aA hd,aA hd];have htc:(b.tries (ku n)).1=u.c:=by
   rw[Vo];split;·next h0=>rw[h0]
   ·rfl
  refine⟨⟨?_,?_,?_,?_,?_,?_,?_,?_,?_,?_⟩,?_,?_,rfl⟩;·rw[HC.out];exact hb.node
  ·rw[HC.out];exact hb.eX
  ·rw[HC.out];exact hb.last
  ·show c.b.ep=1;rw[Fl];exact hb.ep
  ·show c.b.eP=_;rw[Fl];exact hb.eP
  ·show c.b.sh=1;rw[Fl];exact hb.sh
  ·show c.b.q=_;rw[Fl];exact hb.q
  ·rw[HC.out]
   show si b.tr (ku n) ((b.tries (ku n)).1+1,b.now+rD (b.tag+1) (b.tries (ku n)).1)=_;rw[htc,z7,Bh,hb.tr];unfold EZ;rw[aB (show ¬ (u.c+1=0) by omega)];split;·rfl
   ·simp[si]
  ·rw[HC.out]
   show si b.ask ((b.tag+1:Nat):Int) (ku n)=_;rw[hb.ask,Bh,Q9];·unfold uR;rw[bI];rfl
   ·intro hm
    unfold uR at hm;rw[List.map_map] at hm;obtain⟨g,eD,fk⟩:=List.mem_map.1 hm;have:=H g eD;have fk:(g:Int)=((u.tag+1:Nat):Int):=fk;omega
  ·rw[HC.out];exact hb.bs
  ·rw[HC.out];exact z7
  ·rw[HC.out];show b.tag+1=_;rw[Bh]
 ·have ky:Ag.ff 0 [((n:Int),[d])] b out=(b,out):=by
   show (if (b.tries (b.iX 0 (n:Int))).1=0∨(b.tries (b.iX 0 (n:Int))).2<=b.now then _ else _)=_;rw[aB (λh=>hd (a1f.1 h))];rfl
  have kS:∀k,k=1∨k=2∨k=3->(b.b.qu k).l.take 4=[]:=λk N=>by rw[hb.XM N];rfl
  have Ir:a.lN out=(b,out):=by show Ag.fZ [0,1,2,3] { a with now:=a.now+1 } out=_;rw[<-HB.out];show Ag.fZ [1,2,3] (Ag.ff 0 ((b.b.qu 0).l.take 4) b out).1 (Ag.ff 0 ((b.b.qu 0).l.take 4) b out).2=_;rw[yU,ky];show Ag.fZ [2,3] (Ag.ff 1 ((b.b.qu 1).l.take 4) b _).1 (Ag.ff 1 ((b.b.qu 1).l.take 4) b _).2=_;rw[kS 1 (by simp)];show Ag.fZ [3] (Ag.ff 2 ((b.b.qu 2).l.take 4) b _).1 (Ag.ff 2 ((b.b.qu 2).l.take 4) b _).2=_;rw[kS 2 (by simp)];show Ag.fZ [] (Ag.ff 3 ((b.b.qu 3).l.take 4) b _).1 (Ag.ff 3 ((b.b.qu 3).l.take 4) b _).2=_;rw[kS 3 (by simp)];rfl
  have Fy:u.next=⟨u.now+1,u.tag,u.c,u.at_⟩:=aB hd
  rw[Ir,Fy,aB hd,aB hd,bm]
  exact⟨hb,z7,Bh,rfl⟩
theorem ticks{d:Dl}:∀(r:Nat){a:Ag}{u:Au}{gs:aQ}(out:Sends),SA a n eP [((n:Int),[d])] (EZ n u.c u.at_) (uR n gs) B->a.now=u.now->a.tag=u.tag->(∀g∈gs,g<=u.tag)->out=Cs n d gs->
 SA (a.f_ r out).1 n eP [((n:Int),[d])] (EZ n (u.run r gs).1.c (u.run r gs).1.at_) (uR n (u.run r gs).2) B∧(a.f_ r out).2=Cs n d (u.run r gs).2
 | 0,_,_,_,_,h,_,_,_,ho=>⟨h,ho⟩
 | r+1,a,u,gs,out,h,I,G,H,ho=>by
   obtain⟨t1,t2,t3,t4⟩:=h.TL I G H out;unfold Ag.f_ Au.run;refine ticks r _ t1 t2 t3 (λg MA=>?_) ?_
   ·have Fy:u.tag<=u.next.tag:=by unfold Au.next;split;exact Nat.le_succ _;exact bh _
    split at MA
    ·next hd=>
     rcases List.mem_append.1 MA with MA|MA
     ·exact bB (H g MA) Fy
     ·rw[List.mem_singleton.1 MA]
      unfold Au.next;rw[aA hd];exact bh _
    ·exact bB (H g MA) Fy
   ·rw[t4,ho]
    split;·unfold Cs;rw[bI]
    ·rw[bm]
end SA
theorem a5O:(Au.run 48 ⟨0,4294967296,0,0⟩ []).2=[4294967297,4294967298,4294967299,4294967300]:=by decide +kernel
theorem SA.a1g{a:Ag}{ds:List Dl}{g:Nat}(h:SA a n eP [((n:Int),ds)] tr (uR n gs) B)(Vo:∀z∈tr,z.1=ku n)(H:g∈gs)(oK:1<=n)(hn:n<1000000)(hB:B<=1000000){code:Nat}(E:code=1∨code=2∨code=3):SA (a.took 0 g code) n eP [] [] [] (B+100):=by
 obtain⟨r1,r2⟩:=wn (a:=a) (r := .dn 0 n) h.bs hB (Q1 ap);have o5:∀z∈uR n gs,z.2=ku n:=λz hz=>by obtain⟨k,_,rfl⟩:=List.mem_map.1 hz;rfl
 have tY:a.jw g=ku n:=by
  unfold Ag.jw;rw[h.ask];cases hf:qR (uR n gs) (g:Int) with
  | none=>
    unfold qR at hf;rw[Option.map_eq_none_iff,List.find?_eq_none] at hf;exact absurd (hf ((g:Int),ku n) (List.mem_map.2 ⟨g,H,rfl⟩)) (by simp)
  | some i=>
    obtain⟨z,hz,rfl⟩:=Ce hf;exact o5 z hz
 have jT:ku n≠(0,0,0):=λe=>by have:(1:Int)=0:=congrArg (·.1) e;omega
 have h6:code≠6:=by omega
 have Fu:a.took 0 g code=Ag.fin { a with ask:=gV a.ask (g:Int),last:=0 } 1 0 n:=by unfold Ag.took;dsimp only;rw[tY,aB jT,aB h6,aA E];rfl
 rw[Fu];have Cx:Ag.put { a with ask:=gV a.ask (g:Int),last:=0 } (.dn 0 n)={ a with ask:=gV a.ask (g:Int),last:=0,rs:=a.rs++[.dn 0 n] }:=by unfold Ag.put;exact aA r1
 unfold Ag.fin;rw[Cx];have pK:abo.p_ (a.b.qu 0).l (n:Int)=[]:=by rw[h.Q2];unfold abo.p_ abo.t6;simp
 refine⟨h.node,h.eX,rfl,h.ep,h.eP,h.sh,?_,?_,?_,r2⟩
 ·show a.b.q.set 0 ⟨abo.p_ (a.b.qu 0).l (n:Int),(a.b.qu 0).k⟩=_
  rw[pK,h.Q2,h.q];rfl
 ·show gV a.tr ((1:Int),(0:Int),(n:Int))=_
  rw[h.tr];unfold gV;rw[List.filter_eq_nil_iff];intro z hz;simp[Vo z hz,ku]
 ·show vH (gV a.ask (g:Int)) ((1:Int),(0:Int),(n:Int))=_
  rw[h.ask];unfold vH;rw[List.filter_eq_nil_iff];intro z hz;have:=o5 z (Ag.yA hz);simp[this,ku]
theorem nR{d:Dr}(node:Int){ev:Ev}{x1:Wl}(I:(d.x.kK 0).1=ev)(G:(d.x.kK 0).2=x1)(hw:ev.why=0):∃v,d.step node=⟨d.n+1,x1,d.s.add 2 ev,v⟩:=⟨_,step_eq I G hw⟩
theorem Ct(h:p.1.net.length=0):vJ p=p:=by obtain⟨x,t⟩:=p;rw[Io,ls (-1) (d:=⟨0,x,t,none⟩) h]
namespace SW
variable{x:Wl}{q:List abo.Ab}{ask:List (Int×lp)}{rest:List Lt3}
theorem XO{d:Dr}{l:Lt3}{rest:List Lt3}(h:d.x.net=l::rest):eY node (k+1) d=eY node k (d.step node):=qB node k (by rw[h];simp)
theorem lead(h:SW x es ms abm Bd n eP q tr ask B [])(pL:Bd<=1000000)(hn:es.length<=51)(hT:abm<1000000):SW (x.gH 0) es ms (abm+1) (Bd+36000) n eP q tr ask B []:=by
 obtain⟨I,G⟩:=h.rp.again pL hn hT;have Y:x.gH 0=x.qv 0 ((x.rp 0).lead).1:=by show (x.qv 0 ((x.rp 0).lead).1).send 0 ((x.rp 0).lead).2=_;rw[G];rfl
 rw[Y];refine⟨h.nr,h.na,h.cut,h.net,?_,h.ag⟩;show SR (at_ x.rp 0 ((x.rp 0).lead).1 0) _ _ _ _;rw[nK];exact I
theorem lP(h:SW x es ms abm Bd n eP q tr ask B []):SW (x.lP 0 1) es ms abm Bd n eP q tr ask B []:=by
 have ht:(x.rp 0).ticks=[]:=by unfold Rp.ticks;rw[aA h.rp.leads];unfold Rp.accepts;rw[h.rp.node,h.rp.nodes];rfl
 refine⟨h.nr,h.na,h.cut,?_,h.rp,h.ag⟩;show il (x.nr+x.na) 0 x.net (x.rp 0).ticks=_;rw[ht,h.net];rfl
theorem Ba(h:SW x es ms abm Bd n [] q tr ask B rest):SW (x.fU 0) es ms abm Bd n [] q tr ask B rest:=h.jx h.ag.JP.1
theorem Qa(h:SW x es ms abm Bd n eP [] tr ask B [])(r:Nat):SW (x.jy 0 r) es ms abm Bd n eP [] tr ask B []:=by obtain⟨I,G⟩:=h.ag.E_ r [];have:=h.jx I;unfold Wl.jy;rw[G];exact this
theorem idle(h:SW x es ms abm Bd n [] [] tr ask B rest):x.idle=true:=by
 unfold Wl.idle;rw[h.na];show ((x.ag 0).idle&&true)=true;have I:(x.ag 0).b.eP.length=0:=by rw[h.ag.eP];rfl
 have G:(x.ag 0).queued=[]:=by unfold Ag.queued;show (((x.ag 0).b.qu 0).l.map _++(((x.ag 0).b.qu 1).l.map _++(((x.ag 0).b.qu 2).l.map _++(((x.ag 0).b.qu 3).l.map _++[]))))=[];rw[h.ag.Q2,h.ag.XM (k:=1) (by simp),h.ag.XM (k:=2) (by simp),h.ag.XM (k:=3) (by simp)];rfl
 unfold Ag.idle;rw[I,G];rfl
theorem XP(h:SW x es ms abm Bd n eP q tr ask B [])(hd:DS d)(hn:1<=n∧n<=1000000)(H:g1<=9223372036854775807∧g2<=9223372036854775807∧g3<=9223372036854775807∧g4<=9223372036854775807):SW (x.send (x.nr+0) (Cs n d [g1,g2,g3,g4])) es ms abm Bd n eP q tr ask B [(1,0,gp (lQ n d g1)),(1,0,gp (lQ n d g2)),(1,0,gp (lQ n d g3)),(1,0,gp (lQ n d g4))]:=by
 refine⟨h.nr,h.na,h.cut,?_,h.rp,h.ag⟩;have f:∀g,g<=9223372036854775807->kX (gp (lQ n d g))=true:=λg H=>EV (Cr hd ⟨hn.1,by omega⟩ H);show il (x.nr+x.na) (x.nr+0) x.net (Cs n d [g1,g2,g3,g4])=_;rw[h.net,h.nr,h.na];have hs:∀(g:Nat)(b:List Lt3)(l:Sends),g<=9223372036854775807->b.length<64->il (1+1) (1+0) b (((0:Int),gp (lQ n d g))::l)=il (1+1) (1+0) (b++[(1,0,gp (lQ n d g))]) l:=λg b l H hb=>by show il (1+1) (1+0) (if kX (gp (lQ n d g))=true∧_∧b.length<64 then _ else _) l=_;rw[aA ⟨f g H,(by decide:(0:Int)<=0∧(0:Int)<((1+1:Nat):Int)),hb⟩];rfl
 show il (1+1) (1+0) [] [((0:Int),gp (lQ n d g1)),((0:Int),gp (lQ n d g2)),((0:Int),gp (lQ n d g3)),((0:Int),gp (lQ n d g4))]=_;rw[hs g1 _ _ H.1 am,hs g2 _ _ H.2.1 (by simp),hs g3 _ _ H.2.2.1 (by simp),hs g4 _ _ H.2.2.2 (by simp)];rfl
theorem go_step{d d':Dr}{l:Lt3}{rest:List Lt3}(h:d.x.net=l::rest)(hs:d.step node=d'):eY node (k+1) d=eY node k d':=by rw[XO h,hs]
theorem four{ms':j4}(h:SW x es ms abm Bd n eP [((n:Int),[d])] tr (uR n [g1,g2,g3,g4]) B [(1,0,gp (lQ n d g1)),(1,0,gp (lQ n d g2)),(1,0,gp (lQ n d g3)),(1,0,gp (lQ n d g4))])(Vo:∀z∈tr,z.1=ku n)(hd:DS d)(hn:1<=n∧n<1000000)(hB:B<=1000000)(pL:Bd<=900000)(CP:es.length<=40)
 (H:g1<=9223372036854775807∧g2<=9223372036854775807∧g3<=9223372036854775807∧g4<=9223372036854775807) (E:ei ms (lQ n d 0)=((c:Int),0,ms')) (sy:c=1∨c=2∨c=3) {c2:Nat} (lV:ei ms' (lQ n d 0)=((c2:Int),0,ms')) (za:c2<=255) (t:iN):SW (vJ (x,t)).1 (es++[lQ n d g1]++[lQ n d g2]++[lQ n d g3]++[lQ n d g4]) ms' abm (Bd+72000) n eP [] [] [] (B+100) []∧(vJ (x,t)).2=t.told c (ku n) 0:=by
 have ok:∀g,g<=9223372036854775807->M8 (lQ n d g):=λg H=>Cr hd ⟨hn.1,by omega⟩ H;have s1:∀g,ei ms (lQ n d g)=((c:Int),0,ms'):=λg=>(EX ms n d g).trans E;have s2:∀g,ei ms' (lQ n d g)=((c2:Int),0,ms'):=λg=>(EX ms' n d g).trans lV;have a5P:c<=255:=by omega
 obtain⟨e1,w1⟩:=h.yH (show 3<=62 by decide) ap ap (ok g1 H.1) rfl rfl H.1 (c:=c) (by rw[s1]) a5P (m:=0) (by rw[s1]) am;rw[s1] at w1;obtain⟨x1,CM⟩:=aE ((x.kK 0).2);rw[<-CM] at w1;obtain⟨e2,w2⟩:=SW.yH w1 (show 3<=62 by decide) ap (by simp;omega) (ok g2 H.2.1) rfl rfl H.2.1 (c:=c2) (by rw[s2]) za (m:=0) (by rw[s2]) am;rw[s2] at w2;obtain⟨x2,jS⟩:=aE ((x1.kK 0).2);rw[<-jS] at w2;obtain⟨e3,w3⟩:=SW.yH w2 (show 3<=62 by decide) ap (by simp;omega) (ok g3 H.2.2.1) rfl rfl H.2.2.1 (c:=c2) (by rw[s2]) za (m:=0) (by rw[s2]) am;rw[s2] at w3;obtain⟨x3,qn⟩:=aE ((x2.kK 0).2);rw[<-qn] at w3;obtain⟨e4,w4⟩:=SW.yH w3 (show 3<=62 by decide) ap (by simp;omega) (ok g4 H.2.2.2) rfl rfl H.2.2.2 (c:=c2) (by rw[s2]) za (m:=0) (by rw[s2]) am;rw[s2] at w4;obtain⟨x4,Mr⟩:=aE ((x3.kK 0).2);rw[<-Mr] at w4;obtain⟨i,hi,hid⟩:∃i,qR (uR n [g1,g2,g3,g4]) (g1:Int)=some i∧i=ku n:=⟨_,by unfold qR uR;simp,rfl⟩;subst hid;obtain⟨e5,w5⟩:=SW.Q5 w4 hi (w4.ag.a1g Vo (by simp) hn.1 hn.2 hB sy);obtain⟨x5,HX5⟩:=aE ((x4.kK 0).2);rw[<-HX5] at w5;obtain⟨e6,w6⟩:=SW.Im w5 rfl;obtain⟨x6,HX6⟩:=aE ((x5.kK 0).2);rw[<-HX6] at w6;obtain⟨e7,w7⟩:=SW.Im w6 rfl;obtain⟨x7,HX7⟩:=aE ((x6.kK 0).2);rw[<-HX7] at w7;obtain⟨e8,w8⟩:=SW.Im w7 rfl;obtain⟨x8,HX8⟩:=aE ((x7.kK 0).2);rw[<-HX8] at w8;have z:∀s:iN,s.add 2 { Ev.zero with node:=1 }=s:=λ_=>rfl;obtain⟨v1,d1⟩:=nR (d:=⟨0,x,t,none⟩) (-1) e1 CM.symm rfl;obtain⟨v2,d2⟩:=nR (d:=⟨1,x1,t,v1⟩) (-1) e2 jS.symm rfl;obtain⟨v3,d3⟩:=nR (d:=⟨2,x2,t,v2⟩) (-1) e3 qn.symm rfl;obtain⟨v4,d4⟩:=nR (d:=⟨3,x3,t,v3⟩) (-1) e4 Mr.symm rfl;obtain⟨v5,d5⟩:=nR (d:=⟨4,x4,t,v4⟩) (-1) e5 HX5.symm rfl;obtain⟨v6,d6⟩:=nR (d:=⟨5,x5,t.told c (ku n) 0,v5⟩) (-1) e6 HX6.symm rfl;obtain⟨v7,d7⟩:=nR (d:=⟨6,x6,t.told c (ku n) 0,v6⟩) (-1) e7 HX7.symm rfl;obtain⟨v8,d8⟩:=nR (d:=⟨7,x7,t.told c (ku n) 0,v7⟩) (-1) e8 HX8.symm rfl;have dd1:Dr.step ⟨0,x,t,none⟩ (-1)=⟨1,x1,t,v1⟩:=d1;have dd2:Dr.step ⟨1,x1,t,v1⟩ (-1)=⟨2,x2,t,v2⟩:=d2;have dd3:Dr.step ⟨2,x2,t,v2⟩ (-1)=⟨3,x3,t,v3⟩:=d3;have dd4:Dr.step ⟨3,x3,t,v3⟩ (-1)=⟨4,x4,t,v4⟩:=d4;have dd5:Dr.step ⟨4,x4,t,v4⟩ (-1)=⟨5,x5,t.told c (ku n) 0,v5⟩:=d5;have dd6:Dr.step ⟨5,x5,t.told c (ku n) 0,v5⟩ (-1)=⟨6,x6,t.told c (ku n) 0,v6⟩:=d6;have dd7:Dr.step ⟨6,x6,t.told c (ku n) 0,v6⟩ (-1)=⟨7,x7,t.told c (ku n) 0,v7⟩:=d7;have dd8:Dr.step ⟨7,x7,t.told c (ku n) 0,v7⟩ (-1)=⟨8,x8,t.told c (ku n) 0,v8⟩:=d8;have Z8:∀k,eY (-1) (k+1+1+1+1+1+1+1+1) ⟨0,x,t,none⟩=⟨8,x8,t.told c (ku n) 0,v8⟩:=λk=>by rw[go_step (d:=⟨0,x,t,none⟩) h.net dd1,go_step (d:=⟨1,x1,t,v1⟩) w1.net dd2,go_step (d:=⟨2,x2,t,v2⟩) w2.net dd3,go_step (d:=⟨3,x3,t,v3⟩) w3.net dd4,go_step (d:=⟨4,x4,t,v4⟩) w4.net dd5,go_step (d:=⟨5,x5,t.told c (ku n) 0,v5⟩) w5.net dd6,go_step (d:=⟨6,x6,t.told c (ku n) 0,v6⟩) w6.net dd7,go_step (d:=⟨7,x7,t.told c (ku n) 0,v7⟩) w7.net dd8];exact ls (-1) (by show x8.net.length=0;rw[w8.net];rfl) k
 rw[show Bd+18000+18000+18000+18000=Bd+72000 by omega] at w8;rw[Io,Z8 392];exact⟨w8,rfl⟩
end SW
theorem XQ(k:Nat)(o8:aR)(p:WS):ER k o8 p=eY ((p.1.nr+k:Nat):Int) 400 ⟨0,p.1.nO k o8,p.2,none⟩:=by unfold ER;rfl
theorem SW.asked{q:List abo.Ab}(h:SW p.1 es ms abm Bd n eP q tr [] B [])(pL:Bd<=1000000)(CP:es.length<=50)(ht:(p.1.ag 0).tag<9223372036854775807){s:aR}(hs:abn.fW s=0)(hz:s.size<=20)(hm:abk.gt ms.q s<18446744073709551616)(r:Nat):∃(y:Wl)(tg:Nat),sr 0 s (r+1) p=((y,p.2.told 8 (0,0,0) (abk.gt ms.q s)),some (abk.gt ms.q s))∧SW y (es++[kq s 1 tg]) ms abm (Bd+18000) n eP q tr [] B []:=by
 obtain⟨tg,HT⟩:=aE ((p.1.ag 0).tag+1);have I:=h.jx (h.ag.look hs);have G:=I.sent (e:=kq s 1 tg) (Q3 hs hz ap);have Y:p.1.nO 0 s=(p.1.jx 0 ((p.1.ag 0).look s).1).send ((p.1.jx 0 ((p.1.ag 0).look s).1).nr+0) [((0:Int),gp (kq s 1 tg))]:=by unfold Wl.nO;rw[h.ag.last,h.ag.node,<-HT];rfl
 rw[<-Y,<-HT] at G;have kY:ei ms (kq s 1 tg)=(8,abk.gt ms.q s,ms):=aA rfl;obtain⟨y,g1,g2⟩:=G.two pL CP (Q3 hs hz ap) rfl rfl ap (c:=8) (by rw[kY];rfl) am (m:=abk.gt ms.q s) (by rw[kY]) hm (λa ha=>ha.seen) ((p.1.nr+0:Nat):Int) 398 0 p.2 none;rw[kY] at g2;have hv:(if ((8:Nat):Int)=8∧(1:Int)=((p.1.nr+0:Nat):Int) then some (abk.gt ms.q s) else none)=some (abk.gt ms.q s):=aA ⟨rfl,by rw[h.nr];rfl⟩;rw[hv] at g1;have g1:ER 0 s p=⟨0+2,y,p.2.told 8 (0,0,0) (abk.gt ms.q s),some (abk.gt ms.q s)⟩:=by rw[XQ];exact g1
 refine⟨y,tg,?_,g2⟩;unfold sr;rw[g1,aB (by simp)]
def rv(ns:aQ):List Dl:=ns.map λn=>(kL,n)
theorem F0:∀(ns:aQ)(a:Nat),a+ns.sum<=18446744073709551615->vA kL (rv ns) a=some (a+ns.sum)
 | [],a,_=>rfl
 | n::ns,a,h=>by
   rw[List.sum_cons] at h ⊢;show vA kL ((kL,n)::rv ns) a=_;rw[Ay,aA rfl,aB (by show ¬ (18446744073709551615-n<a);omega)];rw[F0 ns (a+n) ap];congr 1;omega
theorem XR(hn:1<=n)(hl:ns.length<32)(h:n+ns.sum<=18446744073709551615):iV (rv ns) (kL,n)=0:=by
 unfold iV;have hr:gZ (kL,n)=true:=by unfold gZ;rw[aC XN,aC (show 0<n by omega)];rfl
 rw[hr,aB am,aB (by unfold rv;rw[bj];omega),aB (by rw[F0 ns n h];simp)]
theorem JQ:∀(ns:aQ)(a:Nat),a+ns.sum<=18446744073709551615->(rv ns).foldl lL [(kL,a)]=[(kL,a+ns.sum)]
 | [],_,_=>rfl
 | n::ns,a,h=>by
   rw[List.sum_cons] at h ⊢;show (rv ns).foldl lL (lL [(kL,a)] (kL,n))=_;have:lL [(kL,a)] (kL,n)=[(kL,a+n)]:=by unfold lL;rw[aA rfl,cz (by show a+n<=_;omega)]
   rw[this,JQ ns (a+n) ap,Nat.add_assoc]
theorem Qb(hn:ns≠[])(h:ns.sum<=18446744073709551615):pE (rv ns)=[(kL,ns.sum)]:=by
 match ns,hn with
 | n::ns,_=>
   show (rv ns).foldl lL [(kL,n)]=_;rw[JQ ns n (by rw[List.sum_cons] at h;exact h),List.sum_cons]
theorem XS{x:j4}{e:En}(I:e.k≠2)(G:abq.seen (x.at_ e).F (x.at_ e).M e.sq=false)(L:¬ e.ep<Ec x.fQ e.ag)(h4:abq.far (x.at_ e).F e.sq=false)(h5:abk.iV x.q e.ds=0):ei x e=(1,0,⟨abk.nj x.q e.ds,tC x.fQ e.ag e.ep,i_ x.pl (e.ag,e.sh) ⟨(abq.ij (x.at_ e).F (x.at_ e).M e.sq).1,(abq.ij (x.at_ e).F (x.at_ e).M e.sq).2,(x.at_ e).B⟩⟩):=by unfold ei;rw[aB I,aB (by rw[G];simp),aB L,aB (by rw[h4];simp),aA h5]
theorem XT{x:j4}{e:En}(I:e.k≠2)(G:abq.seen (x.at_ e).F (x.at_ e).M e.sq=true)(L:e.sq ∉ (x.at_ e).B):ei x e=(2,0,x):=by unfold ei;rw[aB I,aA G,aB L]
def XU(m:Nat):j4:=(ei j4.new (lQ 1 (kL,m) 0)).2.2
theorem a1h(h:m<=18446744073709551615):abk.iV [] [(kL,m)]=0:=by
 unfold abk.iV;have I:abk.i7 [] [] [(kL,m)]=true:=by show (decide (0+m+0<=abk.o6)&&true)=true;rw[aC (show 0+m+0<=abk.o6 by unfold abk.o6;omega)];rfl
 rw[aA I,aB];exact (by decide:¬ (1 > 16))
theorem stepJ(h:m<=18446744073709551615):ei j4.new (lQ 1 (kL,m) 0)=(((1:Nat):Int),0,XU m)∧ei (XU m) (lQ 1 (kL,m) 0)=(((2:Nat):Int),0,XU m)∧abk.gt (XU m).q kL=m:=by
 have e:ei j4.new (lQ 1 (kL,m) 0)=(1,0,⟨abk.nj [] [(kL,m)],tC [] 1 1,i_ [] (1,0) ⟨(abq.ij 0 0 1).1,(abq.ij 0 0 1).2,[]⟩⟩):=XS (show ¬ (1:Int)=2 by decide) (show abq.seen 0 0 1=false by decide) (show ¬ ((1:Int)<0) by decide) (show abq.far 0 1=false by decide) (a1h h)
 have e2:XU m=⟨abk.nj [] [(kL,m)],tC [] 1 1,i_ [] (1,0) ⟨(abq.ij 0 0 1).1,(abq.ij 0 0 1).2,[]⟩⟩:=by unfold XU;rw[e]
 refine⟨by rw[e2];exact e,?_,?_⟩
 ·rw[e2]
  exact XT (show ¬ (1:Int)=2 by decide) (show abq.seen (gW (i_ [] (1,0) ⟨(abq.ij 0 0 1).1,(abq.ij 0 0 1).2,[]⟩) (1,0)).F (gW (i_ [] (1,0) ⟨(abq.ij 0 0 1).1,(abq.ij 0 0 1).2,[]⟩) (1,0)).M 1=true by decide) (show ¬ ((1:Int)∈(gW (i_ [] (1,0) ⟨(abq.ij 0 0 1).1,(abq.ij 0 0 1).2,[]⟩) (1,0)).B) by decide)
 ·rw[e2]
  show abk.gt (abk.nj [] [(kL,m)]) kL=m;unfold abk.nj;rw[aA (a1h h)];show abk.gt [(kL,0+m)] kL=m;unfold abk.gt;rw[abk.iU,aA rfl];simp
def CK(x:Wl):Prop:=(x.ag 0).now=0∧(x.ag 0).tag=4294967296
theorem CK.begun:CK (jP 1 1).1:=by
 have hn:((Wl.new 1 1).gH 0).net.length=0:=by
  have Y:(Wl.new 1 1).gH 0=(Wl.new 1 1).qv 0 ((Rp.open_ 0 1 []).lead).1:=by show ((Wl.new 1 1).qv 0 ((Rp.open_ 0 1 []).lead).1).send 0 ((Rp.open_ 0 1 []).lead).2=_;rw[SR.begin_.2];rfl
  rw[Y];rfl
 unfold jP CK;rw[ls (-1) (d:=⟨0,(Wl.new 1 1).gH 0,iN.new,none⟩) hn];exact⟨rfl,rfl⟩
theorem CK.jx{x:Wl}(h:CK x){a:Ag}(hs:Ag.nN (x.ag 0) a):CK (x.jx 0 a):=by unfold CK;show (at_ x.ag 0 a 0).now=0∧(at_ x.ag 0 a 0).tag=_;rw[nK,hs.now,hs.tag];exact h
theorem XV{ms:aQ}(h:SW p.1 [] j4.new 1 100 0 (rv ms) [] [] [] B [])(E:CK p.1)(hB:B<=900000)(hn:1<=n)(hl:ms.length<32)(hs:n+ms.sum<=18446744073709551615):SW (p.1.gI 0 (kL,n)) [] j4.new 1 100 0 (rv (ms++[n])) [] [] [] (B+100) []∧CK (p.1.gI 0 (kL,n))∧((p.1.ag 0).fX (kL,n)).2=0:=by
 obtain⟨a1,a2⟩:=h.ag.fX ap (d:=(kL,n)) ⟨XN,⟨hn,by show n<=_;omega⟩,(by decide:kL.size<=20)⟩ (XR hn hl hs);have e:rv (ms++[n])=rv ms++[(kL,n)]:=by unfold rv;rw[bI];rfl
 rw[e];exact⟨h.jx a1,E.jx (Ag.nN.fX _ _),a2⟩
theorem JR{q:WS}(h:q.1.na=1):vK q=vJ ((q.1.fU 0).jy 0 48,q.2):=by unfold vK;rw[h];rfl
theorem F1{q:WS}{ask:List (Int×lp)}(h:SW q.1 es ms abm Bd n [] [] tr ask B []):SW (vK q).1 es ms abm Bd n [] [] tr ask B []∧(vK q).2=q.2:=by have G:=h.Ba.Qa 48;rw[JR h.na,Ct (p:=((q.1.fU 0).jy 0 48,q.2)) (by show ((q.1.fU 0).jy 0 48).net.length=0;rw[G.net];rfl)];exact⟨G,rfl⟩
theorem JS{es':List En}{ms':j4}{YP n' B':Nat}{q:List abo.Ab}(h:SW p.1 es ms abm Bd n [] q [] [] B [])(pL:Bd<=1000000)(CP:es.length<=51)(hT:abm<1000000){t':iN}
 (hr:∀z:WS,z=(p.1.gH 0,p.2)->SW z.1 es ms (abm+1) (Bd+36000) n [] q [] [] B []->SW (vK z).1 es' ms' (abm+1) YP n' [] [] [] [] B' []∧(vK z).2=t'):SW (jk 2 p).1 es' ms' (abm+1) YP n' [] [] [] [] B' []∧(jk 2 p).2=t':=by
 have I:=h.lead pL CP hT;have d1:vJ (p.1.gH 0,p.2)=(p.1.gH 0,p.2):=Ct (by show (p.1.gH 0).net.length=0;rw[I.net];rfl);obtain⟨r1,r2⟩:=hr _ rfl I;obtain⟨s1,s2⟩:=F1 r1;have hq:oH 2 (vJ (p.1.gH 0,p.2))=vK (vK (p.1.gH 0,p.2)):=by rw[d1];rfl
 obtain⟨z,HZ⟩:=aE (vK (vK (p.1.gH 0,p.2)));rw[<-HZ] at s1 s2 hq;have L:=s1.lP;have e:jk 2 p=(z.1.lP 0 1,z.2):=by unfold jk;rw[hq];exact Ct (by show (z.1.lP 0 1).net.length=0;rw[L.net];rfl)
 rw[e];exact⟨L,s2.trans r2⟩
theorem Ip{ms:aQ}(h:SW p.1 [] j4.new 1 100 0 (rv ms) [] [] [] B [])(E:CK p.1)(hB:B<=10000)(I:∀n∈ms,1<=n)(hs:ms.sum<=18446744073709551615)(kY:p.2=iN.new):(p.1.ag 0).cut.2.length=min ms.length 1∧(jk 2 (p.1.fU 0,p.2)).1.idle=true∧(jk 2 (p.1.fU 0,p.2)).2.ak.length=min ms.length 1∧∃(es:List En)(m:j4)(abm Bd n B:Nat),SW (jk 2 (p.1.fU 0,p.2)).1 es m abm Bd n [] [] [] [] B []∧Bd<=1000000∧es.length<=50∧abk.gt m.q kL=ms.sum:=by
 by_cases hm:ms=[]
 ·subst hm
  obtain⟨c1,c2⟩:=h.ag.JP;have hb:SW (p.1.fU 0) [] j4.new 1 100 0 [] [] [] [] B []:=h.jx c1;obtain⟨s1,s2⟩:=JS (p:=(p.1.fU 0,p.2)) hb am am am (λz hz hw=>by obtain⟨r1,r2⟩:=F1 hw;exact⟨r1,r2.trans (by rw[hz])⟩)
  refine⟨by rw[c2];rfl,s1.idle,?_,_,_,_,_,_,_,s1,by omega,by decide,rfl⟩;show (jk 2 (p.1.fU 0,p.2)).2.ak.length=0;rw[s2,kY];rfl
 ·have zD:1<=ms.sum:=by
   match ms,hm with
   | n::l,_=>have:=I n (by simp);rw[List.sum_cons];omega
  obtain⟨S,HS⟩:=aE (ms.sum)
  rw[<-HS] at hs zD ⊢
  have hd:DS (kL,S):=⟨XN,⟨zD,hs⟩,(by decide:kL.size<=20)⟩
  have a2a:min ms.length 1=1:=by have:ms.length≠0:=λe=>hm (bu e);omega
  obtain⟨c1,c2⟩:=h.ag.cut (n:=0) ap am hd (by rw[HS];exact Qb hm ap) (λz hz=>by unfold rv at hz;obtain⟨k,_,rfl⟩:=List.mem_map.1 hz;rfl)
  have hb:SW (p.1.fU 0) [] j4.new 1 100 (0+1) [] [(((0+1:Nat):Int),[(kL,S)])] [] [] (B+100) []:=h.jx c1
  have Fl:CK (p.1.fU 0):=E.jx (Ag.nN.cut _)
  obtain⟨st1,st2,st3⟩:=stepJ hs
  obtain⟨s1,s2⟩:=JS (p:=(p.1.fU 0,p.2)) (es':=[lQ 1 (kL,S) 4294967297,lQ 1 (kL,S) 4294967298,lQ 1 (kL,S) 4294967299,lQ 1 (kL,S) 4294967300]) (ms':=XU S) (YP:=36100+72000) (n':=1) (B':=B+100+100) (t':=iN.new.told 1 (ku 1) 0) hb am am am (λz hz hw=>by
   have o9:CK z.1:=by rw[hz];exact Fl
   have w1:=hw.Ba;have ck1:CK (z.1.fU 0):=o9.jx (Ag.nN.cut _);obtain⟨a1,a2⟩:=SA.ticks (n:=1) (d:=(kL,S)) 48 (u:=⟨0,4294967296,0,0⟩) (gs:=[]) [] w1.ag ck1.1 ck1.2 (λ_ h=>by simp at h) rfl;rw[a5O] at a1 a2;have w2:=(w1.jx a1).XP hd ⟨by decide,by decide⟩ (g1:=4294967297) (g2:=4294967298) (g3:=4294967299) (g4:=4294967300) ⟨by decide,by decide,by decide,by decide⟩;have Y:(z.1.fU 0).jy 0 48=((z.1.fU 0).jx 0 (((z.1.fU 0).ag 0).f_ 48 []).1).send (((z.1.fU 0).jx 0 (((z.1.fU 0).ag 0).f_ 48 []).1).nr+0) (Cs 1 (kL,S) [4294967297,4294967298,4294967299,4294967300]):=by unfold Wl.jy;rw[a2];rfl
   rw[<-Y] at w2;have w3:=w2.four (λy hy=>by
    unfold EZ at hy;split at hy;·simp at hy
    ·rw[List.mem_singleton.1 hy]) hd ⟨by decide,by decide⟩ ap am am ⟨by decide,by decide,by decide,by decide⟩ (c:=1) st1 (.inl rfl) (c2:=2) st2 am z.2
   rw[JR hw.na];refine⟨w3.1,w3.2.trans ?_⟩;rw[hz];show p.2.told 1 (ku 1) 0=_;rw[kY])
  refine⟨by rw[c2,a2a];rfl,s1.idle,?_,_,_,_,_,_,_,s1,by decide,by simp,st3⟩
  rw[s2,a2a];rfl
set_option maxRecDepth 100000
set_option maxHeartbeats 1000000
theorem a1i(n:Int):bits .and .i64 n 16777215=n % 16777216:=by
 have a6G:(BitVec.ofInt 64 16777215).toNat=2 ^ 24-1:=by decide
 have key:(BitVec.ofInt 64 n &&& BitVec.ofInt 64 16777215).toNat=(n % ((2 ^ 64:Nat):Int)).toNat % 2 ^ 24:=by rw[BitVec.toNat_and,BitVec.toNat_ofInt,a6G,Nat.and_two_pow_sub_one_eq_mod]
 show IntKind.i64.wrap ((BitVec.ofInt 64 n &&& BitVec.ofInt 64 16777215).toNat:Nat)=n % 16777216;rw[key,IntKind.wrap_i64];omega
theorem JU(h:St (λ_=>False) w0 l w):Grow w0 w:=Below.trans (Grow.refl w0) (h.just.below (B:=(w0:Nat)) (λ_ hb=>hb.elim False.elim id) (bh _))
theorem TM{abq y:Nat}{x':Wl}{t:iN}{b:Bool}{a:Ac}(hS:St V w0 (mZ abq s p++(.c y 75 ([a].flatMap Ic).toArray::l)) w)(hr:kr abq p.1 p.2 [a] b x' t)(ho:p.2.Ok)(hl:p.2.len<=900000):dz W 32 #[abq,s,Z (some ⟨y,0,none⟩) 1 1] w λe O=>e=b5 (aY b)∧St V w0 (mZ abq s (x',t)++l) O:=by have I:St V w0 ([.o (iw abq p.1),.o (fR s p.2),.c y 75 ([a].flatMap Ic).toArray]++l) w:=hS;have:=St.call I (a':=λ(_:Unit)=>[.o (iw abq x'),.o (fR s t),.c y 75 ([a].flatMap Ic).toArray]) (λ_=>⟨iw.framed _ _,fR.framed _ _,trivial,trivial⟩) I.no (PW w (λ_=>False) abq s y p.1 x' p.2 t [a] b hr ho (by show p.2.len+1<=_;omega));refine this.mono λe O ⟨_,G,L⟩=>⟨G,?_⟩;have L:St V w0 (.o (iw abq x')::.o (fR s t)::.c y 75 ([a].flatMap Ic).toArray::l) O:=L;exact L.dO 2 rfl
theorem F2(w:X)(A0:aU)(no co:Nat)(lo:aN)(hr:Reads w (w:Nat) 1 A0 no (lo.map (Value.int .i64))):dz W 5 #[Z A0 no co] w λe O=>e=b5 (aY true)∧Grow w O:=by
 have Vi:lo.length=no:=by have:=hr.1;simpa using this
 obtain⟨k,HK⟩:=az (min no 20);have Qf:∀ts t w,(Builtin.min_ ts t #[J no,J 20]).run W w=.ok (J k) w:=by intro ts t w;rw[run_min_int2,HK.out];split<;>(congr 2;omega)
 obtain⟨k1,HK1⟩:=az (min k 1);have hmn1:∀ts t w,(Builtin.min_ ts t #[J k,J 1]).run W w=.ok (J k1) w:=by intro ts t w;rw[run_min_int2,HK1.out];split<;>(congr 2;omega)
 have fN:St (λ_=>False) w ([]++[]) w:=St.begin_ (l:=[]) trivial (λ_ h=>h.elim) trivial;have hB:=St.call (a:=[]) (b:=[]) fN (a':=λi:Nat×Nat=>mZ i.1 i.2 (jP 1 1)) (λ_=>pu _ _ _) fN.no (JO w 1 1 am am am vm);have hB:dz W 26 #[J 1,J 1] w _:=hB;obtain⟨p,HP⟩:=az (jP 1 1);have hp:=yF (nr:=1) (na:=1) am am;have hw:=SW.begun;have o9:=CK.begun;rw[<-HP.out] at hB hp hw o9;clear HP;go_in;go_wp2_with fail;refine hB.mono ?_;rintro e w1 ⟨⟨abq,s⟩,rfl,ej⟩;have ej:St (λ_=>False) w (mZ abq s p++[]) w1:=ej;clear hB fN;go_wp2_with fail;go_loopw [5,7] (λu i wr=>∃(j:Nat)(q:WS)(ms:aQ),i=J j∧u=ae ah ((ms.sum:Nat):Int)∧(j<=k∧ms.length=j∧ms.sum<=16777216*j)∧(∀n∈ms,1<=n)∧SW q.1 [] j4.new 1 100 0 (rv ms) [] [] [] (100+100*j) []∧CK q.1∧gY q 1 1 2 100∧Hid (q.2=iN.new)∧St (λ_=>False) w (mZ abq s q++[]) wr) (λ_ i _=>k-(intOf i).toNat);case atStart=>exact⟨0,p,[],rfl,rfl,⟨bo _,rfl,bh _⟩,λ_ h=>by simp at h,hw.1,o9,hp,Q hw.2,ej⟩
 case round=>
  clear ej hw o9 hp;obtain⟨j,q,ms,rfl,rfl,⟨hj,hml,hsum⟩,hms,hw,o9,hq,kY,hS⟩:=hrel;have hk20:k<=20∧k<=no:=by rw[HK.out];omega
  by_cases Vb:j<k
  ·have c1:decide ((j:Int)<(k:Int))=true:=aC ap
   obtain⟨ad,u0,rfl,hb,Y,E⟩:=hr.at_ (k:=j) ap;have Ix:j<lo.length:=by omega
   rw[List.getElem?_map,List.getElem?_eq_getElem Ix] at Y;injection Y with Y;rw[<-Y] at E;have H:=JU hS;have hcw:wr.cell? (ad.add j)=some (J lo[j]):=(H.cell (p:=ad.add j) (by rw[block_add];exact hb)).trans E;obtain⟨z,HZ⟩:=az (lo[j]);rw[<-HZ.out] at hcw;obtain⟨m,Hm⟩:∃m:Nat,Hid (z % 16777216=(m:Int)):=⟨(z % 16777216).toNat,Q ap⟩;have hm24:m<=16777215:=by have:=Hm.out;omega
   have hand:bits .and .i64 z 16777215=(m:Int):=(a1i z).trans Hm.out;obtain⟨m1,Hm1⟩:=az (m+1);have ry:1<=m1∧m1<=16777216:=by have:=Hm1.out;omega
   have wv:IntKind.i64.wrap (1+(m:Int))=(m1:Int):=by rw[IntKind.wrap_i64,Hm1.out];omega
   have Bg:IntKind.u64.wrap (m1:Int)=(m1:Int):=by rw[IntKind.wrap_u64];omega
   clear E Y;have Ue:0<q.1.na:=by rw[hq.na];decide
   obtain⟨i1,i2,i3⟩:=XV hw o9 ap (n:=m1) ry.1 ap ap;have a1:=hq.good.EM (abq:=abq) Ue 0 (n:=m1) (s:=kL) am ap;rw[hq.nr] at a1;have eR:kr abq q.1 q.2 [⟨9,1,0,(m1:Int),kL⟩] true (q.1.gI 0 (kL,m1)) q.2:=kr.ok (x':=q.1.gI 0 (kL,m1)) a1 i3 (show (0:Nat)<18446744073709551616 by decide) (kr.nil _ _);obtain⟨y,wa,HY,HA,dV⟩:=hS.new' #[J 9,J 1,(),J m1,aX ⟨#[97,61,49]⟩] 75;have dV:St (λ_=>False) w (mZ abq s q++[.c y 75 (([⟨9,1,0,(m1:Int),kL⟩]:List Ac).flatMap Ic).toArray]) wa:=dV.perm (bg (l₁:=[_]) (l₂:=mZ abq s q++[]));have T:=TM dV eR hq.ok (by have:=hq.len;omega);have CQ:gY (q.1.gI 0 (kL,m1),q.2) 1 1 2 100:=⟨hq.good.gI Ue (by show m1<=_;omega),hq.ok,hq.len,hq.nr,hq.na⟩;clear eR a1 i3 H dV hw;go_wp2_with fail;rw[<-HA.out,<-HY.out];refine T.mono ?_;rintro e w2 ⟨rfl,dX⟩;clear T HA HY;go_wp2_with fail;refine⟨⟨j+1,(q.1.gI 0 (kL,m1),q.2),ms++[m1],by go_num,?_,⟨by omega,by rw[bd,hml];rfl,by rw[List.sum_append];simp;omega⟩,λn hn=>?_,by rw[show 100+100*(j+1)=100+100*j+100 by omega];exact i1,i2,CQ,kY,dX⟩,by simp[intOf];omega⟩
   ·rw[List.sum_append]
    have:IntKind.u64.wrap (((ms.sum:Nat):Int)+(m1:Int))=((ms.sum+m1:Nat):Int):=by rw[IntKind.wrap_u64];omega
    simp
   ·rcases List.mem_append.1 hn with hn|hn
    ·exact hms n hn
    ·rw[List.mem_singleton.1 hn];exact ry.1
  ·have c1:decide ((j:Int)<(k:Int))=false:=aD ap
   have Ue:0<q.1.na:=by rw[hq.na];decide
   have a5Q:Hid (j=k):=Q ap;obtain⟨S,HS⟩:=az (ms.sum);obtain⟨e1,e2,e3,es,mf,abm,Bd,nf,Bf,hwf,pL,CP,Ve⟩:=Ip hw o9 ap hms ap kY.out;have iP:min ms.length 1=k1:=by rw[HK1.out,hml,a5Q.out]
   rw[iP] at e1 e3;rw[<-HS.out] at Ve ⊢;have hSS:S<18446744073709551616:=by rw[HS.out];omega
   have TN:=B9 hS (hq.good.Ck Ue 0 0 ⟨#[]⟩);rw[hq.nr,e1] at TN;unfold j8 at TN;dsimp only at TN;have TN:dz W 33 #[abq,aZ #[J 10,J 1,(),(),""]] wr _:=TN;obtain⟨ev,HE⟩:=az ({ ({ Ev.zero with code:=(k1:Int) }:Ev) with bag:=((q.1.fU 0).net.length:Int) }:Ev);have a2b:ev.code=(k1:Int):=by rw[HE.out]
   rw[<-HE.out] at TN;have hqb:=hq.batch (i:=0) am;obtain⟨pb,HPB⟩:=az ((q.1.fU 0,q.2):WS);rw[<-HPB.out] at TN hqb e2 e3 hwf;clear e1 hw o9 hms kY Qf;go_wp2_with fail;refine TN.mono ?_;rintro e w2 ⟨rfl,dV⟩;clear TN hS c1;have dX:=dV.new aH 77;go_wp2_with (refine d_ dX 0 rfl 77 _ _ rfl 0 rfl [J ev.why,J ev.node,J ev.code,J ev.id.1,J ev.id.2.1,J ev.id.2.2,ae ah ev.n,J ev.bag] rfl (bf rfl) rfl aw (kB ev) rfl rfl ?_;clear dX;intro w3 eO;refine stay ?_);refine dI ?_;obtain⟨z,HZ⟩:=az ((w2:Nat));rw[<-HZ.out] at eO ⊢;clear dV;have eO:St (λ_=>False) w (.c z 77 (kB ev)::(mZ abq s pb++[])) w3:=eO;have c2:w3.cell? ⟨z,2,none⟩=some (J ev.code):=eO.facts.1.1 2;rw[a2b] at c2;have eF:St (λ_=>False) w (mZ abq s pb++[]) w3:=eO.drop;have MD:=St.call eF (a':=λ(_:Unit)=>mZ abq s (jk 2 pb)) (λ_=>pu _ _ _) eF.no (PY w3 (λ_=>False) abq s 1 1 2 100 2 pb hqb am am am);rw[e2] at MD;have Uu:=hqb.settle (n:=2) am am;obtain⟨ps,HPS⟩:=az (jk 2 pb);rw[<-HPS.out] at MD Uu e3 hwf;have MD:dz W 34 #[abq,s,J 2] w3 _:=MD;go_wp2_with fail;refine MD.mono ?_;rintro e w4 ⟨_,rfl,eN⟩;clear MD eF eO c2;obtain⟨y,tg,ha,hwa⟩:=hwf.asked pL CP (yI Uu am) XN am (by rw[Ve];exact hSS) 7;rw[Ve] at ha;have Yp:=St.call eN (a':=λ(_:Unit)=>mZ abq s (sr 0 kL 8 ps).1) (λ_=>pu _ _ _) eN.no (a1c w4 (λ_=>False) abq s 1 1 _ _ 0 ps Uu am am am kL XN);have yX:=Uu.sr XN (k:=0) am 8 am;rw[ha] at Yp yX;obtain⟨pa,HPA⟩:=az ((y,ps.2.told 8 (0,0,0) S):WS);have hka:pa.2.ak.length=k1:=by rw[HPA.out];exact e3
   dsimp only at Yp yX;rw[<-HPA.out] at Yp yX;have Yp:dz W 35 #[abq,s,J 1,aX ⟨#[97,61,49]⟩] w4 (λe O=>∃_:Unit,e=b5 (a_ #[ae ah S,aY true])∧St (λ_=>False) w (mZ abq s pa++[]) O):=Yp;go_wp2_with fail;refine Yp.mono ?_;rintro e w5 ⟨_,rfl,fH⟩;clear Yp eN;have hAk:=EY fH yX am;rw[hka] at hAk;go_wp2_with fail;refine hAk.mono ?_;rintro e w6 ⟨A,c,rfl,fD⟩;clear hAk fH;have fD:St (λ_=>False) w ([]++[]) w6:=fD.drop.drop.drop;have hAw:=St.call (a:=[]) (b:=[]) fD (a':=λ(_:Unit)=>[]) (λ_=>trivial) fD.no (TJ w6);go_wp2_with fail;refine hAw.mono ?_;rintro e w7 ⟨_,rfl,gy⟩;go_wp2;go_ret;exact⟨rfl,JU gy⟩
end Go.Proofs.YtpeepcmdehhbgaaGreatDoor
