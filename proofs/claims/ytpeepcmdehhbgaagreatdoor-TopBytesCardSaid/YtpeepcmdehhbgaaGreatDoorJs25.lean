/- Bo9. -/
import Derived.Test.YtpeepcmdehhbgaaGreatDoorJs20
import Derived.Test.YtpeepcmdehhbgaaGreatDoorJs12
set_option linter.all false
set_option maxRecDepth 100000
set_option maxHeartbeats 2000000
open Go.Value renaming int->ae,slice->Z,string->aX,bool->aY,agg->aZ,tuple->a_
open Go.Ending renaming returned->b5
open Go.IntKind renaming i64->af,u64->ah
open Go (J az aE aA aB aC aD ay aj am ap aw aL aK aJ aI aH aV aU aT aR aQ aP aO aN)
open Go.Proofs.Tryz renaming prog->W
open Go.Lib renaming hid->Q
open List renaming length_append->bd,set_cons_succ->bz,getElem_mem->bF,flatMap_append->bL,drop_eq_getElem_cons->bP,drop_eq_nil_of_le->cR,length_set->dh
open Nat renaming le_refl->bh
open Go renaming World->X,Calls->dz
namespace Go.Proofs.YtpeepcmdehhbgaaGreatDoor
open RowKit Hop
def lL:List Dl->Dl->List Dl
 | [],d=>[d]
 | x::l,d=>if x.1=d.1 then (x.1,min (x.2+d.2) 18446744073709551615)::l else x::lL l d
def pE(q:List Dl):List Dl:=q.foldl lL []
theorem AF:∀{l:List Dl}{d:Dl},(∀x∈l,decide (x.1=d.1)=false)->lL l d=l++[d]
 | [],_,_=>rfl
 | x::l,d,h=>by
   have Y:x.1≠d.1:=by simpa using h x (by simp)
   unfold lL;rw[aB Y,AF λy hy=>h y (by simp[hy])];rfl
theorem Jg:∀{l:List Dl}{d:Dl}{k:Nat}(N:k<l.length),decide (l[k].1=d.1)=true->(∀x∈l.take k,decide (x.1=d.1)=false)->lL l d=l.set k (l[k].1,min (l[k].2+d.2) 18446744073709551615)
 | x::l,d,0,N,h,_=>by
   have Y:x.1=d.1:=by simpa using h
   unfold lL;rw[aA Y];rfl
 | x::l,d,k+1,N,h,G=>by
   have Y:x.1≠d.1:=by simpa using G x (by simp)
   unfold lL;rw[aB Y,Jg (l:=l) (d:=d) (k:=k) (by simpa using N) (by simpa using h) λy hy=>G y (by simp[hy])];rfl
theorem Oc(l:List Dl)(d:Dl):(lL l d).length<=l.length+1:=by
 induction l with
 | nil=>simp[lL]
 | cons x l ih=>unfold lL;split<;>simp<;>omega
theorem Od{l:List Dl}{d:Dl}(h:∀x∈l,x.2<=18446744073709551615)(hd:d.2<=18446744073709551615):∀x∈lL l d,x.2<=18446744073709551615:=by
 induction l with
 | nil=>intro x Y;simp[lL] at Y;subst Y;exact hd
 | cons y l ih=>
   intro x Y;unfold lL at Y;split at Y
   ·rcases List.mem_cons.1 Y with rfl|Y
    ·exact Nat.min_le_right _ _
    ·exact h x (by simp[Y])
   ·rcases List.mem_cons.1 Y with rfl|Y
    ·exact h _ (by simp)
    ·exact ih (λz hz=>h z (by simp[hz])) x Y
theorem ZR(w:X)(s s':aR)(n x y:Nat)(hy:eJ w y 147 #[aX s',ae ah x]):dz W 334 #[aZ #[aX s,ae ah n],y] w λe O=>e=b5 (aY (decide (s=s')))∧Grow w O:=by
 have fu:=dT w (.cells #[aX s,ae ah n] 147);have c0:=(hy.grow fu).cell 0;by_cases h:s=s'
 ·subst h
  go_in;go_wp2;go_ret;exact⟨by simp,fu⟩
 ·have hb:=abn.sZ h
  have hd:Hid (decide (s=s')=false):=Q (aD h);replace h:=Q h;go_in;go_wp2;go_ret;exact⟨by rw[hd.out];rfl,fu⟩
theorem xT:∀(h:List Dl)(k v:Nat)(N:k<h.length),(fm h).set (k*2+1) (ae ah v)=fm (h.set k (h[k].1,v))
 | [],k,v,N=>absurd N (by simp)
 | b::l,0,v,N=>rfl
 | b::l,k+1,v,N=>by
   rw[show (k+1)*2+1=k*2+1+1+1 by omega,show fm (b::l)=aX b.1::ae ah b.2::fm l from rfl,bz,bz,xT l k v (by simpa using N)];rfl
theorem L5(w:X)(D:aV)(A:aU)(n c:Nat)(l:List Dl)(h:jM w D A n l)(hn:n<=1000)(hl:∀d∈l,d.2<=18446744073709551615):dz W 281 #[Z A n c] w λe O=>∃A2,e=b5 (Z A2 (pE l).length (pE l).length)∧jM O (New w O) A2 (pE l).length (pE l)∧Grow w O:=by
 have rA:Hid (l.length=n):=Q h.len;have hS:=St.begin_ (l:=[]) (w:=w) (V:=λ_=>False) trivial (λ_ h=>h.elim) trivial;go_in;go_wp2_with fail;go_loopw [3,9] (λu i wr=>∃(k:Nat)(q:List Dl),i=J k∧k<=n∧(l.drop k).foldl lL q=pE l∧q.length<=k∧(∀x∈q,x.2<=18446744073709551615)∧St (λ_=>False) w [.o (fK 147 2 u q.length (fm q))] wr) (λ_ i _=>n-(intOf i).toNat);case atStart=>exact⟨0,[],rfl,by omega,rfl,bh _,(λ_ h=>absurd h (by simp)),hS.join (fK.framed _ _ _ _ _) (Grow.refl _) (U:=λ_=>False) Row.nil (λ_ h=>h.elim)⟩
 case round=>
  obtain⟨k,q,rfl,oL,hf,T_,RH,hS⟩:=hrel;obtain⟨Aq,cq,rfl,hcq,hmq⟩:=fK.sl hS;have gP:Grow w wr:=hS.grown;by_cases N:k<n
  ·obtain⟨ad,hq,rfl,f0,f1⟩:=kn (In.grow h gP) N
   have e0:=f0 wr (Grow.refl _);have e1:=f1 wr (Grow.refl _);have Sc:=hl l[k] (bF hq);rw[bP hq,List.foldl_cons] at hf;generalize l[k]=d at e0 e1 Sc hf;obtain⟨s,x⟩:=d;dsimp only at e0 e1 Sc;obtain⟨y,wa,HY,HA,mh⟩:=hS.new' #[aX s,ae ah x] 147;obtain⟨U,hU,_⟩:=mh.own.see 1 rfl;obtain⟨Aq',cq',e6,Se,_⟩:=Row.jL (show Row wa U 147 2 (Z Aq q.length cq) q.length (fm q) from hU);injection e6 with e6 _ e7;subst e6 e7;have hY:=mh.blk 0 rfl;have hIx:=tf wa U Aq q.length cq q Se ap 334 #[y] (λz=>decide (z.1=s)) ⟨λvs w=>by kernel_rfl,λO H d _=>ZR O d.1 s d.2 x y (hY.grow H)⟩;clear f0 f1;replace hf:=Q hf;go_wp2_with fail;rw[<-HA.out,<-HY.out];refine hIx.mono ?_;rintro e w2 ⟨⟨rfl,kh⟩|⟨j,hj,rfl,hp,kh⟩,fk⟩
   ·have dV:=mh.grow fk
    have L6:=Q (AF (d:=(s,x)) kh);replace kh:=Q kh;have y0:w2.cell? ⟨y,0,none⟩=some (aX s):=dV.facts.1.1 0;have y1:w2.cell? ⟨y,1,none⟩=some (ae ah x):=dV.facts.1.1 1;obtain⟨y2,wb,xL,HB,dX⟩:=dV.new' #[aX s,ae ah x] 147;go_wp2_with (at_builtin;refine stay ?_);refine dI ?_;rw[<-HB.out,<-xL.out];refine g_ oQ rfl (.tmp 18) (.tmp 20) rfl rfl (dX.front 2 rfl) (A:=some ⟨y2,0,none⟩) (m:=1) (c:=1) (news:=[aX s,ae ah x]) rfl (In.reads ((dX.blk 0 rfl).jL (size:=2) (n:=1) rfl)) (by simp[Value.oneCell']) ap ?_;intro v' w4 eO;go_wp2_with fail;refine⟨⟨k+1,q++[(s,x)],by go_num,by omega,by rw[<-L6.out];exact hf.out,by simp;omega,λz hz=>?_,?_⟩,by simp[intOf];omega⟩
    ·rcases List.mem_append.1 hz with hz|hz
     ·exact RH z hz
     ·rw[List.mem_singleton.1 hz];exact Sc
    ·have h5:=(eO.dO 1 rfl).dO 1 rfl
     rw[bd,fm,bL];exact h5
   ·have dV:=(mh.grow fk).front 1 rfl
    have L6:=Q (Jg (d:=(s,x)) hj hp kh);have fj:Hid ((q.set j (q[j].1,min (q[j].2+x) 18446744073709551615)).length=q.length):=Q (by rw[dh]);have hdc:=Q (xT q j (min (q[j].2+x) 18446744073709551615) hj);have hqj:=RH q[j] (bF hj);replace kh:=Q kh;replace hp:=Q hp;obtain⟨g,cg,e8,_⟩:=fK.shape dV ap;injection e8 with e8 _ e9;subst e8 e9;have BE:=Od (l:=q) (d:=(s,x)) RH Sc;rw[L6.out] at BE;replace BE:=Q BE;have ia:∀l' O,St (λ_=>False) w (.o (fK 147 2 (Z (some ⟨g,0,none⟩) q.length cq) q.length (fm q))::.c y 147 #[aX s,ae ah x]::l') O->O.cell? ⟨g,j*2+1,none⟩=some (ae ah (q[j].2:Int))∧O.cell? ⟨y,1,none⟩=some (ae ah x):=λl' O h=>
     ⟨((fK.at_ h).1 (j*2+1) ap).trans ((flat_get mN 2 iH q j 1 hj ap).trans rfl),h.facts.1.1 1⟩
    have lR:j<q.length:=hj;generalize q[j]=d0 at L6 fj hdc hqj ia BE;obtain⟨s0,x0⟩:=d0;dsimp only at L6 fj hdc hqj ia BE;have dj0:decide ((j:Int)<0)=false:=aD ap;go_wp2_with fail;have eW:=dV.grow (Grow.refl _).drew;have eA:=ia _ _ eW;refine dJ rfl ?_;refine fC (λO=>O.cell? ⟨g,j*2+1,none⟩=some (ae ah x0)∧O.cell? ⟨y,1,none⟩=some (ae ah x)) [10,11,12] 13 rfl [0,1,2,3,4,5,6,7,8] ?_;iterate 9 (refine eV rfl eA (λw1 ⟨I,G⟩=>aM) ?_)
    refine eZ 9 [] rfl ?_;have UH:=abk.Dt w2.drew x0 x (by unfold abk.o6;omega) (by unfold abk.o6;omega);obtain⟨M,HM⟩:=az (min (x0+x) 18446744073709551615);rw[show (if x0+x<=abk.o6 then x0+x else abk.o6)=M by rw[HM.out];unfold abk.o6;split<;>omega] at UH;rw[<-HM.out] at L6 fj hdc BE;go_wp2_with fail;refine UH.mono ?_;rintro e w3 ⟨rfl,rfl⟩;go_wp2_with fail;refine⟨λ_=>eA,?_⟩;refine fY 10 rfl aw ?_;have hcR:=fK.at_ eW;obtain⟨kM,lV⟩:=eA;have hfz:=hcR.2 (j*2+1);clear hcR;go_wp2_with fail;have eO:=((dV.a3U (j*2+1) (ae ah M)).grow (Grow.refl _).drew).dO 1 rfl;refine⟨⟨k+1,q.set j (s0,M),by go_num,by omega,by rw[<-L6.out];exact hf.out,by rw[fj.out];omega,BE.out,?_⟩,by simp[intOf];omega⟩;rw[fj.out,<-hdc.out];exact eO
  ·have kS:l.drop k=[]:=cR (by rw[rA.out];omega)
   rw[kS] at hf;replace hf:=Q hf;replace kS:=Q kS;have za:=od wr Aq q.length cq hcq;go_wp2_with fail;refine za.mono ?_;rintro e w2 ⟨rfl,rfl⟩;go_wp2;go_ret;rw[<-hf.out];obtain⟨U,hU,fS⟩:=hS.own.see 0 rfl;obtain⟨A7,c7,e7,hI7,_⟩:=Row.jL (show Row wr U 147 2 (Z Aq q.length cq) q.length (fm q) from hU);injection e7 with e7;subst e7;exact⟨_,rfl,hI7.mono λb hb=>⟨(fS b hb).1.elim False.elim id,(fS b hb).2⟩,gP⟩
end Go.Proofs.YtpeepcmdehhbgaaGreatDoor
