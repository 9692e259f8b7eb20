/- Er1, Er2, Bo1, Bo2, Bo3, En5, Bk1. -/
import Derived.Test.YtpeepcmdehhbgaaGreatDoorJs19
import Derived.Test.YtpeepcmdehhbgaaGreatDoorJs11
set_option linter.all false
set_option maxRecDepth 100000
set_option maxHeartbeats 2000000
open Go.Value renaming int->ae,slice->Z,string->aX,bool->aY,agg->aZ,tuple->a_
open Go.Ending renaming returned->b5
open Go.IntKind renaming i64->af,u64->ah
open Go (J az aE aA aB aC aD ay aj am ap aw aL aK aJ aI aH aV aU aT aR aQ aP aO aN)
open Go.Proofs.Tryz renaming prog->W
open Go.Lib renaming hid->Q
open List renaming length_append->bd,append_nil->bm,length_take->bn,append_assoc->bp,take_succ_eq_append_getElem->br,eq_nil_of_length_eq_zero->bu,length_singleton->bv,length_cons->bD,getElem_mem->bF,take_of_length_le->bH,flatMap_cons->bJ,flatMap_append->bL,length_drop->bO,drop_eq_getElem_cons->bP,map_cons->bQ,mem_of_mem_take->bW,length_nil->cx,size_toArray->cy,flatMap_nil->cE,not_mem_nil->cF,mem_cons->cI,drop_eq_nil_of_le->cR,take_length->dq
open Nat renaming le_refl->bh,zero_le->bo,le_trans->bB,eq_zero_or_pos->b_,min_eq_left->cz,mul_one->cM
open Bool renaming eq_false_or_eq_true->bC,and_eq_true->bU
open Go.Builtin renaming zeroCells->bM
open Array renaming length_toList->bZ
open Int renaming toNat_natCast->cA,eq_ofNat_of_zero_le->cU
open Go renaming Value->K,World->X,Calls->dz
variable{P:Prop}
namespace Go.Proofs.YtpeepcmdehhbgaaGreatDoor
open RowKit Hop
def oz(P:Prop)(en:Ending):Prop:=∃abl:Int,en=b5 (J abl)∧(abl=0↔P)
theorem oz.yes(h:P):oz P (b5 (J 0)):=⟨0,rfl,by simp[h]⟩
theorem oz.no{abl:Int}(h:¬ P)(hE:abl≠0):oz P (b5 (J abl)):=⟨abl,rfl,by simp[h,hE]⟩
theorem rY(w:X)(n m:Int):dz W 186 #[J n,J m] w λe O=>e=b5 (aY (decide (0<=n∧n<m)))∧w=O:=by
 by_cases h0:0<=n
 ·by_cases I:n<m
  ·have d0:decide (n >= 0)=true:=aC h0
   rw[aC (show 0<=n∧n<m from ⟨h0,I⟩)];go_in;go_wp2;go_ret;trivial
  ·have d0:decide (n >= 0)=true:=aC h0
   rw[aD (show ¬ (0<=n∧n<m) from λh=>I h.2)];go_in;go_wp2;go_ret;trivial
 ·have d0:decide (n >= 0)=false:=aD h0
  rw[aD (show ¬ (0<=n∧n<m) from λh=>h0 h.1)];go_in;go_wp2;go_ret;trivial
theorem RX(w:X)(s:aR)(x:Nat):dz W 244 #[aZ #[aX s,ae ah x]] w λe O=>e=b5 (aY (decide (x=0)))∧Grow w O:=by
 have h:((x:Int) == 0)=decide (x=0):=by rw[Bool.eq_iff_iff];simp
 go_in;go_wp2;go_ret;exact⟨rfl,(Below.refl _ w).alloc (bh _) _⟩
def UA(l:List Dl):Prop:=∃d∈l,d.2=0
def a4i(P:Prop)(en:Ending):Prop:=∃z:Int,en=b5 (J z)∧(0<=z↔P)
theorem Gt(w:X)(V:aV)(A:aU)(n c:Nat)(l:List Dl)(h:jM w V A n l)(hl:l.length=n)(hn:n<=1048576):dz W 302 #[Z A n c,.func (.func 244) #[] #[]] w λe O=>a4i (UA l) e∧Grow w O:=by
 go_in;go_wp2_with fail;go_loopw [8] (λi wr=>∃k:Nat,k<=n∧i=J k∧(∀d∈l.take k,d.2≠0)∧Grow w wr) (λi _=>n-(intOf i).toNat);case atStart=>exact⟨0,by omega,rfl,by simp,Grow.refl _⟩
 case round=>
  obtain⟨k,oL,rfl,fS,gP⟩:=hrel;by_cases N:k<n
  ·obtain⟨ad,hq,rfl,f0,f1⟩:=kn (In.grow h gP) N
   have e0:=f0 wr (Grow.refl _);have e1:=f1 wr (Grow.refl _);have m9:l[k]∈l:=bF hq;have j9:∀d∈l.take (k+1),d.2=0->d=l[k]:=λd hd h0=>by
    rw[br hq] at hd;rcases List.mem_append.1 hd with hd|hd
    ·exact absurd h0 (fS d hd)
    ·exact List.mem_singleton.1 hd
   generalize l[k]=y at e0 e1 m9 j9;obtain⟨s,x⟩:=y;dsimp only at e0 e1;have E:=RX wr s x;replace fS:=Q fS;replace j9:=Q j9;clear f0 f1;go_wp2_with fail;refine E.mono ?_;by_cases Y:x=0
   ·rw[aC Y]
    rintro e w2 ⟨rfl,fk⟩;go_wp2;go_ret;exact⟨⟨(k:Int),rfl,by constructor<;>intro _;exact⟨_,m9,Y⟩;omega⟩,gP.trans fk⟩
   ·rw[aD Y]
    rintro e w2 ⟨rfl,fk⟩;go_wp2_with fail;exact⟨⟨k+1,by omega,by go_num,λd hd h0=>Y (by rw[j9.out d hd h0] at h0;exact h0),gP.trans fk⟩,by simp[intOf];omega⟩
  ·obtain rfl:k=n:=by omega
   replace fS:=Q fS;go_wp2;go_ret;exact⟨⟨-1,rfl,by
    constructor;·intro h;omega
    ·rintro ⟨d,hd,h0⟩;exact absurd h0 (fS.out d (by rw[<-hl,dq];exact hd))⟩,gP⟩
def vf(P:Prop)(en:Ending):Prop:=∃b:Bool,en=b5 (aY b)∧(b=true↔P)
theorem zk(w:X)(V:aV)(A:aU)(n c:Nat)(l:List Dl)(h:jM w V A n l)(hl:l.length=n)(hn:n<=1048576):dz W 243 #[Z A n c,.func (.func 244) #[] #[]] w λe O=>vf (UA l) e∧Grow w O:=by have hI:=Gt w V A n c l h hl hn;go_in;go_wp2_with fail;refine hI.mono ?_;rintro e w2 ⟨⟨z,rfl,hz⟩,fk⟩;replace hz:=Q hz;go_wp2;go_ret;exact⟨⟨decide (z >= 0),rfl,by rw[decide_eq_true_eq];exact hz.out⟩,fk⟩
theorem DR{α:Type}(f:α->List UInt8)(m:Nat):∀(q:List α),(∀d∈q,(f d).length<=m)->((q.map f).flatten).length<=q.length*m
 | [],_=>by simp
 | d::q,h=>by
   have I:=DR f m q λx Y=>h x (by simp[Y]);have G:=h d (by simp);simp only[bQ,List.flatten_cons,bd,bD,Nat.add_mul];omega
open abn in
theorem jt{s:aR}(h:fW s=0):s.size<=1000:=by
 unfold fW at h;split at h
 ·rename_i I
  unfold mx at I;simp only[bU,decide_eq_true_eq] at I;obtain⟨G,L⟩:=I;obtain⟨h8,hf⟩:=xH G;have hb:=Gh (fM s);have hq:∀d∈can (fM s),(ox d).length<=65:=λd hd=>by have h4:=((mP _).1 hf).1 d (hb.perm.mem_iff.1 hd);unfold CH at h4;rw[bU] at h4;have h5:=lg h4.1;have h6:=lg h4.2;unfold ox;rw[bd,bD];have e1:d.1.data.toList.length=d.1.size:=bZ;have e2:d.2.data.toList.length=d.2.size:=bZ;omega
  have hl:(can (fM s)).length<=8:=by rw[hb.perm.length_eq];exact h8
  have e:s.size=(Gi (can (fM s))).length:=(congrArg ByteArray.size L).symm.trans (by simp[txt,mk,ByteArray.size]);rw[e];generalize can (fM s)=q at hq hl;cases q with
  | nil=>simp[Gi,Lib.join]
  | cons d q=>
    rw[Aj,bd];have h7:=DR (λd=>44::ox d) 66 q λx Y=>by have:=hq x (by simp[Y]);rw[bD];omega
    have h9:=hq d (by simp);rw[bD] at hl;omega
 ·cases h
structure En.Rt(e:En):Prop where
 sq:e.sq<=9223372036854775807
 ep:e.ep<=9223372036854775807
 tg:e.tg<=9223372036854775807
 ds:∀d∈e.ds,d.2<=18446744073709551615∧d.1.size<=1000000
 se:e.se.size<=1000000
 n:e.ds.length<=1048576
theorem DT(w:X)(e:En)(V:aV)(A:aU)(c:Nat)(hr:e.Rt)(N:e.k=1)(zb:e.se=⟨#[]⟩)(hd:jM w V A e.ds.length e.ds):dz W 187 #[aZ (e.agg A c)] w λen O=>oz e.abq en∧Grow w O:=by
 obtain⟨abq,HW⟩:=az (e.abq);rw[<-HW.out];obtain⟨k,ag,sh,sq,ep,ds,se,fr,tg⟩:=e;obtain⟨r1,r2,r3,r4,r5,r6⟩:=hr;have Mm:abq↔((0<=ag∧ag<8)∧(0<=sh∧sh<4)∧1<=sq∧1<=ep∧(1<=ds.length∧ds.length<=8)∧∀d∈ds,DN d):=by rw[HW.out];unfold En.abq;dsimp only at N zb r1 r2 ⊢;exact⟨λh=>⟨h.2.2.1,h.2.2.2.1,h.2.2.2.2.1.1,h.2.2.2.2.2.1.1,h.2.2.2.2.2.2.1,h.2.2.2.2.2.2.2⟩,λh=>⟨N,zb,h.1,h.2.1,⟨h.2.2.1,r1⟩,⟨h.2.2.2.1,r2⟩,h.2.2.2.2.1,h.2.2.2.2.2⟩⟩
 clear HW;unfold En.agg;dsimp only at N zb r1 r2 r3 r4 r5 r6 hd ⊢;subst N zb;obtain⟨n,HN⟩:=az (ds.length);rw[<-HN.out] at hd r6 Mm ⊢;replace Mm:=Q Mm;have hS:=St.begin_ (l:=[]) (w:=w) (V:=λ_=>False) trivial (λ_ h=>h.elim) trivial;obtain⟨x,wa,HX,HA,hS⟩:=hS.new' #[J 1,J ag,J sh,J sq,J ep,Z A n c,"",J fr,J tg] 40;have gl:Grow w wa:=hS.grown;have E:=hS.facts;simp only[ec] at E;go_in;go_wp2_with fail;rw[<-HA.out,<-HX.out];refine (rY wa ag 8).mono ?_;rintro e w1 ⟨rfl,rfl⟩;by_cases I:0<=ag∧ag<8;case neg=>
  rw[aD I];go_wp2;go_ret;exact⟨oz.no (λh=>I (Mm.out.1 h).1) am,gl⟩
 rw[aC I];go_wp2_with fail;refine (rY wa sh 4).mono ?_;rintro e w1 ⟨rfl,rfl⟩;by_cases G:0<=sh∧sh<4;case neg=>
  rw[aD G];go_wp2;go_ret;exact⟨oz.no (λh=>G (Mm.out.1 h).2.1) am,gl⟩
 rw[aC G];by_cases L:sq<1
 ·have d3:decide (sq<1)=true:=aC L
  replace L:=Q L;go_wp2;go_ret;exact⟨oz.no (λh=>by have:=(Mm.out.1 h).2.2.1;have:=L.out;omega) am,gl⟩
 have d3:decide (sq<1)=false:=aD L;by_cases h4:ep<1
 ·have d4:decide (ep<1)=true:=aC h4
  replace h4:=Q h4;go_wp2;go_ret;exact⟨oz.no (λh=>by have:=(Mm.out.1 h).2.2.2.1;have:=h4.out;omega) am,gl⟩
 have d4:decide (ep<1)=false:=aD h4;by_cases h5:n<=8;case neg=>
  have d5:decide ((8:Int)<(n:Int))=true:=aC ap;go_wp2;go_ret;exact⟨oz.no (λh=>h5 (Mm.out.1 h).2.2.2.2.1.2) am,gl⟩
 have d5:decide ((8:Int)<(n:Int))=false:=aD ap;by_cases h6:n=0
 ·have d6:((n:Int) == 0)=true:=by simp[h6]
  replace h6:=Q h6;go_wp2;go_ret;exact⟨oz.no (λh=>by have:=(Mm.out.1 h).2.2.2.2.1.1;have:=h6.out;omega) am,gl⟩
 have d6:((n:Int) == 0)=false:=beq_eq_false_iff_ne.2 ap;have hda:=In.grow hd gl;have hC:=zk wa V A n c ds hda HN.out.symm ap;go_wp2_with fail;refine hC.mono ?_;rintro e w1 ⟨⟨b,rfl,hb⟩,eD⟩;replace hb:=Q hb;rcases bC b with h7|h7
 ·subst h7
  go_wp2;go_ret;exact⟨oz.no (λh=>by obtain⟨d,hd,h0⟩:=hb.out.1 trivial;have:=((Mm.out.1 h).2.2.2.2.2 d hd).1;omega) am,gl.trans eD⟩
 subst h7;have hdb:=In.grow hda eD;have c5':=(hS.grow eD).facts;simp only[ec] at c5';have mK:=gl.trans eD;clear E hC;go_wp2_with fail;clear c5';go_loopw [49] (λi wr=>∃k:Nat,k<=n∧i=J k∧(∀d∈ds.take k,DN d)∧Grow w1 wr) (λi _=>n-(intOf i).toNat);case atStart=>exact⟨0,by omega,rfl,by simp,Grow.refl _⟩
 case round=>
  obtain⟨k,oL,rfl,fS,gP⟩:=hrel;by_cases N:k<n
  ·obtain⟨ad,hq,rfl,f0,f1⟩:=kn (In.grow hdb gP) N
   have e0:=f0 wr (Grow.refl _);have e1:=f1 wr (Grow.refl _);have m9:ds[k]∈ds:=bF hq;have j9:DN ds[k]->∀d∈ds.take (k+1),DN d:=λho d hd=>by
    rw[br hq] at hd;rcases List.mem_append.1 hd with hd|hd
    ·exact fS d hd
    ·rw[List.mem_singleton.1 hd];exact ho
   have Yc:=r4 _ m9;generalize ds[k]=y at e0 e1 m9 j9 Yc;obtain⟨s,x2⟩:=y;dsimp only at e0 e1 Yc;have TU:1<=x2:=by
    rcases b_ x2 with h0|h0
    ·have:=hb.out.2 ⟨_,m9,h0⟩;cases this
    ·exact h0
   have hP:=abn.qL ((wr.alloc (.cells #[aX s,ae ah x2] 147))) s Yc.2;replace fS:=Q fS;replace j9:=Q j9;replace Yc:=Q Yc;clear f0 f1;by_cases hp:abn.fW s=0
   ·rw[hp] at hP
    replace hp:=Q hp;go_wp2_with fail;refine hP.mono ?_;rintro e w2 ⟨Ap,cp,rfl,_,_,fk⟩;have ib:Grow wr w2:=(dT wr _).trans fk;go_wp2_with fail;exact⟨⟨k+1,by omega,by go_num,j9.out ⟨TU,Yc.out.1,hp.out,jt hp.out⟩,gP.trans ib⟩,by simp[intOf];omega⟩
   ·have Cz:abn.fW s=12:=by unfold abn.fW at hp ⊢;split;rename_i h;rw[aA h] at hp;exact absurd rfl hp;rfl
    rw[Cz] at hP;replace Cz:=Q Cz;replace hp:=Q hp;go_wp2_with fail;refine hP.mono ?_;rintro e w2 ⟨Ap,cp,rfl,_,_,fk⟩;have ib:Grow wr w2:=(dT wr _).trans fk;go_wp2;go_ret;exact⟨oz.no (λh=>hp.out ((Mm.out.1 h).2.2.2.2.2 _ m9).2.2.1) am,mK.trans (gP.trans ib)⟩
  ·obtain rfl:k=n:=by omega
   replace fS:=Q fS;go_wp2;go_ret;exact⟨oz.yes (Mm.out.2 ⟨I,G,by omega,by omega,⟨by omega,h5⟩,λd hd=>fS.out d (by rw[HN.out,dq];exact hd)⟩),mK.trans gP⟩
theorem DU(s:aR):∀(n i:Nat)(r:aT),s.size-i=n->(ByteArray.toList.loop s i r).length=n+r.length
 | 0,i,r,h=>by
   unfold ByteArray.toList.loop;rw[aB ap];simp
 | n+1,i,r,h=>by
   unfold ByteArray.toList.loop;rw[aA ap,DU s n (i+1) _ ap];simp;omega
theorem toList_empty(s:aR):s.toList.isEmpty=true↔s=⟨#[]⟩:=by
 have h:s.toList.length=s.size:=by unfold ByteArray.toList;rw[DU s s.size 0 [] ap];simp
 constructor
 ·intro I
  have:s.size=0:=by rw[<-h,List.isEmpty_iff.1 I];rfl
  obtain⟨⟨l⟩⟩:=s;simp[ByteArray.size] at this;rw[this]
 ·rintro rfl;rw[List.isEmpty_iff];exact bu h
theorem vf.of{b:Bool}(h:b=true↔P):vf P (b5 (aY b)):=⟨b,rfl,h⟩
def En.Kd(e:En):Prop:=(e.k=1∧e.se=⟨#[]⟩)∨(e.k=2∧e.ag=0∧e.sh=0∧e.sq=0∧e.ep=0∧e.ds=[])
theorem NY(w:X)(e:En)(A:aU)(c:Nat):dz W 185 #[aZ (e.agg A c)] w λen O=>vf e.Kd en∧Grow w O:=by
 obtain⟨abq,HW⟩:=aE (e.Kd);rw[<-HW];obtain⟨k,ag,sh,sq,ep,ds,se,fr,tg⟩:=e;unfold En.Kd at HW;unfold En.agg;dsimp only at HW ⊢;have hn:ds=[]↔ds.length=0:=List.length_eq_zero_iff.symm;rw[hn] at HW;generalize ds.length=n at HW;clear hn;have H:∀o,Grow w (w.alloc o):=fb w;by_cases iP:k=1
 ·subst iP
  have HV:Hid (se.toList.isEmpty=true↔abq):=Q (by rw[HW,toList_empty];simp);clear HW;go_in;go_wp2;go_ret;exact⟨vf.of HV.out,H _⟩
 ·by_cases ip:k=2
  ·subst ip
   have HV:Hid (abq↔(ag=0∧sh=0∧sq=0∧ep=0∧n=0)):=Q (by rw[HW];simp);clear HW;have y_:((n:Int) == 0)=decide (n=0):=by rw[Bool.eq_iff_iff];simp
   go_in;by_cases h:ag=0∧sh=0∧sq=0∧ep=0∧n=0
   ·obtain⟨rfl,rfl,rfl,rfl,rfl⟩:=h
    go_wp2;go_ret;exact⟨vf.of (by simp[HV.out]),H _⟩
   ·have HV:Hid (¬ abq):=Q λhw=>h (HV.out.1 hw)
    have hX:(¬ ag=0)∨(ag=0∧¬ sh=0)∨(ag=0∧sh=0∧¬ sq=0)∨(ag=0∧sh=0∧sq=0∧¬ ep=0)∨(ag=0∧sh=0∧sq=0∧ep=0∧¬ n=0):=by omega
    clear h;rcases hX with I|⟨rfl,I⟩|⟨rfl,rfl,I⟩|⟨rfl,rfl,rfl,I⟩|⟨rfl,rfl,rfl,rfl,I⟩
    all_goals
     go_wp2
     go_ret
     refine⟨vf.of ?_,H _⟩
     simp[HV.out,I]
  ·have I:(k == 1)=false:=beq_eq_false_iff_ne.2 iP
   have G:(k == 2)=false:=beq_eq_false_iff_ne.2 ip;have HV:Hid (¬ abq):=Q (by rw[HW];intro h;rcases h with h|h<;>omega);clear HW;go_in;go_wp2;go_ret;exact⟨vf.of (by simp[HV.out]),H _⟩
theorem oy(w:X)(e:En)(V:aV)(A:aU)(c:Nat)(hr:e.Rt)(hd:jM w V A e.ds.length e.ds):dz W 125 #[aZ (e.agg A c)] w λen O=>oz e.Ok en∧Grow w O:=by
 obtain⟨abq,HW⟩:=aE (e.Ok);rw[<-HW];have hK:=λw1=>NY w1 e A c;have Yy:=λw1(H:Grow w w1)I G=>DT w1 e V A c hr I G (In.grow hd H);have jN:=hr.tg;have qM:=hr.se;obtain⟨k,ag,sh,sq,ep,ds,se,fr,tg⟩:=e;replace HW:Hid (abq↔(((0<=fr∧fr<8)∧0<=tg)∧(En.abq ⟨k,ag,sh,sq,ep,ds,se,fr,tg⟩∨En.R ⟨k,ag,sh,sq,ep,ds,se,fr,tg⟩))):=Q (by rw[HW];unfold En.Ok;dsimp only at jN ⊢;exact⟨λh=>⟨⟨h.1.1,h.1.2.1⟩,h.2⟩,λh=>⟨⟨h.1.1,h.1.2,jN⟩,h.2⟩⟩)
 replace hr:=Q hr;unfold En.agg at hK Yy ⊢;dsimp only at jN qM hK Yy ⊢;obtain⟨n,HN⟩:=az (ds.length);rw[<-HN.out] at hK Yy ⊢;have hS:=St.begin_ (l:=[]) (w:=w) (V:=λ_=>False) trivial (λ_ h=>h.elim) trivial;obtain⟨x,wa,HX,HA,hS⟩:=hS.new' #[J k,J ag,J sh,J sq,J ep,Z A n c,aX se,J fr,J tg] 40;go_in;have E:=hS.facts;simp only[ec] at E;go_wp2_with fail;rw[<-HA.out,<-HX.out];refine (hK wa).mono ?_;rintro e w1 ⟨⟨b,rfl,hb⟩,eD⟩;replace hb:=Q hb;have ej:=hS.grow eD;have E:=ej.facts;simp only[ec] at E;rcases bC b with h|h
 case inr=>
  subst h;go_wp2;go_ret;refine⟨oz.no (λh=>?_) am,ej.grown⟩;have hb:=hb.out;simp only[Bool.false_eq_true,false_iff] at hb;refine hb ?_;unfold En.Kd;rcases (HW.out.1 h).2 with G|G
  ·exact .inl ⟨G.1,G.2.1⟩
  ·exact .inr ⟨G.1,G.2.1,G.2.2.1,G.2.2.2.1,G.2.2.2.2.1,G.2.2.2.2.2.1⟩
 subst h;replace hb:Hid (En.Kd ⟨k,ag,sh,sq,ep,ds,se,fr,tg⟩):=Q (by have:=hb.out;simpa using this);go_wp2_with fail;refine (rY w1 fr 8).mono ?_;rintro e w2 ⟨rfl,rfl⟩;by_cases I:0<=fr∧fr<8;case neg=>
  rw[aD I];go_wp2;go_ret;exact⟨oz.no (λh=>I (HW.out.1 h).1.1) am,ej.grown⟩
 rw[aC I];by_cases G:tg<0
 ·have d2:decide (tg<0)=true:=aC G
  replace G:=Q G;go_wp2;go_ret;exact⟨oz.no (λh=>by have:=(HW.out.1 h).1.2;have:=G.out;omega) am,ej.grown⟩
 have d2:decide (tg<0)=false:=aD G;replace I:=Q I;replace G:=Q G;rcases hb.out with ⟨N,hs⟩|⟨N,k1,k2,k3,k4,k5⟩
 ·dsimp only at N hs
  subst N;have hWc:=Yy w1 ej.grown rfl hs;obtain⟨W2,HW2⟩:=az (En.abq ⟨1,ag,sh,sq,ep,ds,se,fr,tg⟩);rw[<-HW2.out,hs] at hWc;clear Yy;go_wp2_with fail;refine hWc.mono ?_;rintro e w2 ⟨⟨abl,rfl,hE⟩,fk⟩;replace hE:=Q hE;go_wp2;go_ret;rw[HW2.out] at hE;refine⟨⟨abl,rfl,hE.out.trans ⟨λh=>HW.out.2 ⟨⟨I.out,by have:=G.out;omega⟩,.inl h⟩,λh=>?_⟩⟩,ej.grown.trans fk⟩;rcases (HW.out.1 h).2 with L|L
  ·exact L
  ·have:=L.1;cases this
 ·dsimp only at N k1 k2 k3 k4 k5
  have hP:=abn.qL w1 se qM;subst N;clear Yy hK;by_cases hp:abn.fW se=0
  ·rw[hp] at hP
   replace hp:=Q hp;replace k1:=Q k1;replace k2:=Q k2;replace k3:=Q k3;replace k4:=Q k4;replace k5:=Q k5;go_wp2_with fail;refine hP.mono ?_;rintro e w2 ⟨Ap,cp,rfl,_,_,fk⟩;go_wp2;go_ret;exact⟨oz.yes (HW.out.2 ⟨⟨I.out,by have:=G.out;omega⟩,.inr ⟨rfl,k1.out,k2.out,k3.out,k4.out,k5.out,hp.out,jt hp.out⟩⟩),ej.grown.trans fk⟩
  ·have Cz:abn.fW se=12:=by unfold abn.fW at hp ⊢;split;rename_i h;rw[aA h] at hp;exact absurd rfl hp;rfl
   rw[Cz] at hP;replace Cz:=Q Cz;replace hp:=Q hp;replace k1:=Q k1;replace k2:=Q k2;replace k3:=Q k3;replace k4:=Q k4;replace k5:=Q k5;go_wp2_with fail;refine hP.mono ?_;rintro e w2 ⟨Ap,cp,rfl,_,_,fk⟩;go_wp2;go_ret;refine⟨oz.no (λh=>?_) am,ej.grown.trans fk⟩;rcases (HW.out.1 h).2 with L|L
   ·have:=L.1;cases this
   ·exact hp.out L.2.2.2.2.2.2.1
theorem En.Ok.rng{e:En}(h:e.Ok):e.Rt:=by
 obtain⟨⟨_,_,I⟩,G⟩:=h;rcases G with ⟨_,L,_,_,h4,h5,h6,h7⟩|⟨_,_,_,L,h4,h5,_,h6⟩
 ·exact⟨h4.2,h5.2,I,λd hd=>⟨(h7 d hd).2.1,bB (h7 d hd).2.2.2 am⟩,by rw[L];decide,bB h6.2 am⟩
 ·exact⟨(by rw[L];decide),(by rw[h4];decide),I,(by rw[h5];intro d hd;cases hd),bB h6 am,by rw[h5];decide⟩
theorem ju(w:X)(e:En)(V:aV)(A:aU)(c:Nat)(h:e.Ok)(hd:jM w V A e.ds.length e.ds):dz W 125 #[aZ (e.agg A c)] w λen O=>en=b5 (J 0)∧Grow w O:=
 (oy w e V A c h.rng hd).mono λ_ _ ⟨⟨abl,I,G⟩,L⟩=>⟨by rw[I,G.2 h],L⟩
def gZ(d:Dl):Bool:=decide (abn.fW d.1=0)&&decide (0<d.2)
def vA(s:aR):List Dl->Nat->Option Nat
 | [],a=>some a
 | d::l,a=>if d.1=s then (if 18446744073709551615-d.2<a then none else vA s l (a+d.2)) else vA s l a
theorem Ay(s:aR)(d:Dl)(l:List Dl)(a:Nat):vA s (d::l) a=if d.1=s then (if 18446744073709551615-d.2<a then none else vA s l (a+d.2)) else vA s l a:=rfl
def iV(l:List Dl)(d:Dl):Int:=if gZ d=false then 1 else if 32<=l.length then 24 else if vA d.1 l d.2=none then 25 else 0
theorem DV(w:X)(s:aR)(x:Nat)(hs:s.size<=1000000):dz W 332 #[aZ #[aX s,ae ah x]] w λe O=>e=b5 (aY (gZ (s,x)))∧Grow w O:=by
 have fu:=dT w (.cells #[aX s,ae ah x] 147);have hB:=eJ.made w 147 #[aX s,ae ah x];have hP:=abn.qL (w.alloc (.cells #[aX s,ae ah x] 147)) s hs;obtain⟨R,HR⟩:=az (gZ (s,x));rw[<-HR.out];go_in;go_wp2_with fail;refine hP.mono ?_;rintro e w2 ⟨Ap,cp,rfl,_,_,fk⟩;have c1:=(hB.grow fk).cell 1;by_cases hp:abn.fW s=0
 ·have HR2:Hid (R=decide (0<x)):=Q (by rw[HR.out];simp[gZ,hp])
  rw[hp];go_wp2;go_ret;exact⟨by rw[HR2.out];simp,fu.trans fk⟩
 ·have HR2:Hid (R=false):=Q (by rw[HR.out];simp[gZ,hp])
  have hb:(abn.fW s == 0)=false:=beq_eq_false_iff_ne.2 hp;replace hp:=Q hp;go_wp2;go_ret;exact⟨by rw[HR2.out];rfl,fu.trans fk⟩
theorem NZ(w:X)(st:Nat)(A:aU)(n c:Nat)(l:List Dl)(D:aV)(hd:jM w D A n l)(kY:w.cell? ⟨st,1,none⟩=some (Z A n c))(fS:st<(w:Nat))(hn:n<=1048576)(hl:∀d∈l,d.2<=18446744073709551615)(s:aR)(x:Nat)(hs:s.size<=1000000)(Y:x<=18446744073709551615):dz W 278 #[st,aZ #[aX s,ae ah x]] w λe O=>e=b5 (J (iV l (s,x)))∧Grow w O:=by
 have fu:=dT w (.cells #[aX s,ae ah x] 147);have hB:=eJ.made w 147 #[aX s,ae ah x];have T:=DV (w.alloc (.cells #[aX s,ae ah x] 147)) s x hs;have rA:Hid (l.length=n):=Q hd.len;have a1J:Hid (∀O,Grow w O->O.cell? ⟨st,1,none⟩=some (Z A n c)):=Q λO H=>(H.cell (p:=⟨st,1,none⟩) fS).trans kY;obtain⟨R,HR⟩:=az (iV l (s,x));rw[<-HR.out];clear kY;go_in;go_wp2_with fail;refine T.mono ?_;rintro e w2 ⟨rfl,fk⟩;have c0:=(hB.grow fk).cell 0;have c1:=(hB.grow fk).cell 1;have b1:=a1J.out w2 (fu.trans fk);rcases bC (gZ (s,x)) with hr|hr
 case inr=>
  have HR2:Hid (R=1):=Q (by rw[HR.out];unfold iV;rw[aA hr]);go_wp2;go_ret;exact⟨by rw[HR2.out];rfl,fu.trans fk⟩
 case inl=>
 have Vj:¬ gZ (s,x)=false:=by rw[hr];simp
 by_cases h32:32<=n
 ·have HR2:Hid (R=24):=Q (by rw[HR.out];unfold iV;rw[aB Vj,aA (by rw[rA.out];exact h32)])
  have d32:decide ((32:Int)<=(n:Int))=true:=aC ap;go_wp2;go_ret;exact⟨by rw[HR2.out];rfl,fu.trans fk⟩
 have HR2:Hid (R=if vA s l x=none then 25 else 0):=Q (by rw[HR.out];unfold iV;rw[aB Vj,aB (by rw[rA.out];exact h32)]);have d32:decide ((32:Int)<=(n:Int))=false:=aD ap;go_wp2_with fail;clear c1 b1 d32 Vj hr;go_loopw [5,24] (λa i wr=>∃(k a':Nat),a=ae ah a'∧i=J k∧k<=n∧a'<=18446744073709551615∧vA s (l.drop k) a'=vA s l x∧Grow w2 wr) (λ_ i _=>n-(intOf i).toNat);case atStart=>exact⟨0,x,rfl,rfl,by omega,Y,rfl,Grow.refl _⟩
 case round=>
  obtain⟨k,a',rfl,rfl,oL,TS,hm,gP⟩:=hrel;have c0:=(hB.grow (fk.trans gP)).cell 0;by_cases N:k<n
  ·obtain⟨ad,hq,rfl,f0,f1⟩:=kn (In.grow hd ((fu.trans fk).trans gP)) N
   have e0:=f0 wr (Grow.refl _);have e1:=f1 wr (Grow.refl _);have m9:=hl l[k] (bF hq);rw[bP hq,Ay] at hm;generalize l[k]=y at e0 e1 m9 hm;obtain⟨s',x'⟩:=y;dsimp only at e0 e1 m9;dsimp only at hm;have RY:=dT wr (.cells #[aX s',ae ah x'] 147);have lS:=eJ.made wr 147 #[aX s',ae ah x'];have c02:=((hB.grow (fk.trans gP)).grow RY).cell 0;have c20:=lS.cell 0;have c21:=lS.cell 1;have wr1:IntKind.u64.wrap ((18446744073709551615:Int)-(x':Int))=((18446744073709551615-x':Nat):Int):=by rw[wrap_u64];omega
   clear f0 f1;by_cases Yd:s'=s
   ·subst Yd
    rw[aA rfl] at hm;by_cases ho:18446744073709551615-x'<a'
    ·rw[aA ho] at hm
     have HR3:Hid (R=25):=Q (by rw[HR2.out,<-hm,aA rfl]);replace hm:=Q hm;go_wp2;go_ret;exact⟨by rw[HR3.out];rfl,(fu.trans fk).trans (gP.trans RY)⟩
    ·rw[aB ho] at hm
     have wr2:IntKind.u64.wrap ((a':Int)+(x':Int))=((a'+x':Nat):Int):=by rw[wrap_u64];omega
     replace hm:=Q hm;go_wp2_with fail;exact⟨⟨k+1,a'+x',by go_num,by go_num,by omega,by omega,hm.out,gP.trans RY⟩,by simp[intOf];omega⟩
   ·rw[aB Yd] at hm
    have hb:=abn.sZ Yd;replace Yd:=Q Yd;replace hm:=Q hm;go_wp2_with fail;exact⟨⟨k+1,a',rfl,by go_num,by omega,by omega,hm.out,gP.trans RY⟩,by simp[intOf];omega⟩
  ·have Vh:k=n:=by omega
   have kS:l.drop k=[]:=cR (by rw[rA.out];omega);rw[kS] at hm;have HR3:Hid (R=0):=Q (by rw[HR2.out,<-hm];rfl);replace hm:=Q hm;replace kS:=Q kS;replace Vh:=Q Vh;go_wp2;go_ret;exact⟨by rw[HR3.out];rfl,(fu.trans fk).trans gP⟩
def tc(F:FuncId)(caps:aP)(p:Dl->Bool)(l:List Dl)(w:X):Prop:=(∀(vs:aP)(w:X),(callFunc F vs).run W w=.ok (.enter F vs) w)∧∀O,Grow w O->∀d∈l,dz W F (#[aZ #[aX d.1,ae ah d.2]]++caps) O λe w''=>e=b5 (aY (p d))∧Grow O w''
theorem tc.grow{F:FuncId}{caps:aP}{p:Dl->Bool}{l:List Dl}{w O:X}(h:tc F caps p l w)(H:Grow w O):tc F caps p l O:=⟨h.1,λw2 G=>h.2 w2 (H.trans G)⟩
def a4j(p:Dl->Bool)(l:List Dl)(e:Ending):Prop:=(e=b5 (J (-1))∧∀d∈l,p d=false)∨∃(k:Nat)(h:k<l.length),e=b5 (J k)∧p l[k]=true∧∀d∈l.take k,p d=false
theorem tf(w:X)(V:aV)(A:aU)(n c:Nat)(l:List Dl)(h:jM w V A n l)(hn:n<=1048576)(F:FuncId)(caps:aP)(p:Dl->Bool)(hF:tc F caps p l w):dz W 302 #[Z A n c,.func (.func F) #[] caps] w λe O=>a4j p l e∧Grow w O:=by
 have hl:l.length=n:=h.len;have QO:=hF.1;go_in;go_wp2_with fail;go_loopw [8] (λi wr=>∃k:Nat,k<=n∧i=J k∧(∀d∈l.take k,p d=false)∧Grow w wr) (λi _=>n-(intOf i).toNat);case atStart=>exact⟨0,by omega,rfl,by simp,Grow.refl _⟩
 case round=>
  obtain⟨k,oL,rfl,fS,gP⟩:=hrel;replace fS:=Q fS;by_cases N:k<n
  ·obtain⟨ad,hq,rfl,f0,f1⟩:=kn (In.grow h gP) N
   have e0:=f0 wr (Grow.refl _);have e1:=f1 wr (Grow.refl _);have E:=hF.2 wr gP l[k] (bF hq);have j9:Hid (l.take (k+1)=l.take k++[l[k]]):=Q (br hq);have hat:Hid (l[k]?=some l[k]):=Q (List.getElem?_eq_getElem hq);generalize l[k]=y at e0 e1 E j9 hat
   obtain⟨s,x⟩:=y;dsimp only at e0 e1 E;clear f0 f1;go_wp2_with fail;refine E.mono ?_;rintro e w2 ⟨rfl,fk⟩;rcases bC (p (s,x)) with hb|hb
   ·go_wp2_with fail
    go_ret;exact⟨.inr ⟨k,hq,rfl,by rw[(List.getElem?_eq_some_iff.1 hat.out).2];exact hb,fS.out⟩,gP.trans fk⟩
   ·go_wp2_with fail
    exact⟨⟨k+1,by omega,by go_num,λd hd=>by
     rw[j9.out] at hd;rcases List.mem_append.1 hd with hd|hd
     ·exact fS.out d hd
     ·rw[List.mem_singleton.1 hd];exact hb,gP.trans fk⟩,by simp[intOf];omega⟩
  ·have a6e:Hid (k=n):=Q ap
   go_wp2;go_ret;exact⟨.inl ⟨rfl,λd hd=>fS.out d (by rw[a6e.out,<-hl,dq];exact hd)⟩,gP⟩
theorem Jb(w:X)(V:aV)(A:aU)(n c:Nat)(l:List Dl)(h:jM w V A n l)(hn:n<=1048576)(F:FuncId)(caps:aP)(p:Dl->Bool)(hF:tc F caps p l w):dz W 243 #[Z A n c,.func (.func F) #[] caps] w λe O=>e=b5 (aY (l.any p))∧Grow w O:=by
 have hI:=tf w V A n c l h hn F caps p hF;go_in;go_wp2_with fail;refine hI.mono ?_;rintro e w2 ⟨hI|⟨k,N,rfl,I,G⟩,fk⟩
 ·obtain⟨rfl,G⟩:=hI
  replace G:=Q G;go_wp2;go_ret;refine⟨?_,fk⟩;rw[show l.any p=false from List.any_eq_false.2 λd hd=>by rw[G.out d hd];simp];rfl
 ·have dk:decide ((0:Int)<=(k:Int))=true:=aC ap
  replace G:=Q G;replace I:=Q I;go_wp2;go_ret;refine⟨?_,fk⟩;rw[show l.any p=true from List.any_eq_true.2 ⟨_,bF N,I.out⟩];rfl
theorem RZ(w:X)(s s':aR)(n x y:Nat)(hy:eJ w y 147 #[aX s',ae ah x]):dz W 371 #[aZ #[aX s,ae ah n],y] w λe O=>e=b5 (aY (decide (s=s')))∧Grow w O:=by
 have fu:=dT w (.cells #[aX s,ae ah n] 147);have c0:=(hy.grow fu).cell 0;by_cases h:s=s'
 ·subst h
  go_in;go_wp2;go_ret;exact⟨by simp,fu⟩
 ·have hb:=abn.sZ h
  have hd:Hid (decide (s=s')=false):=Q (aD h);replace h:=Q h;go_in;go_wp2;go_ret;exact⟨by rw[hd.out];rfl,fu⟩
def Mn(ds:List Dl)(d:Dl):Bool:=ds.any λx=>decide (x.1=d.1)
theorem R_(w:X)(s:aR)(n y m c:Nat)(sq:Int)(A:aU)(D:aV)(ds:List Dl)(hd:jM w D A m ds)(hm:m<=1048576)(hy:eJ w y 196 #[J sq,Z A m c]):dz W 370 #[aZ #[aX s,ae ah n],y] w λe O=>e=b5 (aY (Mn ds (s,n)))∧Grow w O:=by have fu:=dT w (.cells #[aX s,ae ah n] 147);have hB:=eJ.made w 147 #[aX s,ae ah n];have c1:=(hy.grow fu).cell 1;have hC:=Jb (w.alloc (.cells #[aX s,ae ah n] 147)) D A m c ds (In.grow hd fu) hm 371 #[.pointer (some ⟨(w:Nat),0,none⟩)] (λx=>decide (x.1=s)) ⟨λvs w=>by kernel_rfl,λO H d _=>RZ O d.1 s d.2 n _ (hB.grow H)⟩;go_in;go_wp2_with fail;refine hC.mono ?_;rintro e w2 ⟨rfl,fk⟩;go_wp2;go_ret;exact⟨rfl,fu.trans fk⟩
theorem Az(cs:aP)(b:Nat)(vs:List K)(h:b+vs.length<=cs.size):(cs.toList.take b++vs++cs.toList.drop (b+vs.length)).toArray.size=cs.size:=by simp only[cy,bd,bn,bO,bZ];omega
theorem KQ(cs:aP)(b:Nat)(vs:List K)(h:b+vs.length<=cs.size):(cs.toList.take b++vs++cs.toList.drop (b+vs.length)).toArray.toList.take (b+vs.length)=cs.toList.take b++vs:=by rw[show ∀l:List K,l.toArray.toList=l from λ_=>rfl,List.take_left' (by simp only[bd,bn,bZ];omega)]
theorem KR(cs:aP)(b:Nat)(vs:List K)(h:b+vs.length<=cs.size)(q:Nat)(hq:b+vs.length<=q):(cs.toList.take b++vs++cs.toList.drop (b+vs.length)).toArray[q]?=cs[q]?:=by
 have I:(cs.toList.take b++vs).length=b+vs.length:=by simp only[bd,bn,bZ];omega
 rw[List.getElem?_toArray,List.getElem?_append_right ap,I,List.getElem?_drop,Array.getElem?_toList];congr 1;omega
theorem filter_none{p:Dl->Bool}{l:List Dl}(h:∀d∈l,p d=false):l.filter (λd => !p d)=l:=List.filter_eq_self.2 λd hd=>by rw[h d hd];rfl
theorem vg{p:Dl->Bool}{l:List Dl}{k:Nat}(N:k<l.length):(l.take (k+1)).filter (λd => !p d)=if p l[k]=true then (l.take k).filter (λd => !p d) else (l.take k).filter (λd => !p d)++[l[k]]:=by
 rw[br N,List.filter_append];split;·rename_i h;simp[h]
 ·rename_i h
  have:p l[k]=false:=by simpa using h
  simp[this]
theorem Wg(w:X)(l:List Dl)(V:aV)(sl:K)(n:Nat)(T:Row w V 147 2 sl n (fm l))(hn:n<=1048576)(F:FuncId)(y:Nat)(p:Dl->Bool)(hF:tc F #[y] p l w)(hFV:∀O,dM V w O->tc F #[y] p l O):dz W 369 #[sl,.func (.func F) #[] #[y]] w λe O=>∃sl',e=b5 sl'∧Row O V 147 2 sl' (l.filter λd => !p d).length (fm (l.filter λd => !p d))∧dM V w O:=by
 have QO:=hF.1;obtain⟨hl,h0|⟨g,cap,cur,rfl,hV,H,kM,iO,jQ,j9⟩⟩:=id T
 ·obtain⟨rfl,rfl⟩:=h0
  obtain rfl:l=[]:=bu (by have:=ka l;omega);have hI:=tf w V none 0 0 [] In.nil (bo _) F #[y] p hF;go_in;go_wp2_with fail;refine hI.mono ?_;rintro e w2 ⟨⟨rfl,_⟩|⟨k,N,_⟩,fk⟩
  ·go_wp2_with fail
   go_ret;exact⟨_,rfl,Row.nil,dM.dK fk⟩
  ·exact absurd N (by simp)
 obtain⟨A2,c2,e2,Ye,_,_⟩:=T.jL;injection e2 with e2 _ e3;subst e2 e3;have rA:l.length=n:=by have:=ka l;omega
 have hI:=tf w V _ n cap l Ye hn F #[y] p hF;go_in;go_wp2_with fail;refine hI.mono ?_;rintro e w1 ⟨⟨rfl,kh⟩|⟨k0,ja,rfl,sx,kh⟩,eD⟩
 ·replace kh:=Q kh
  go_wp2;go_ret;refine⟨_,rfl,?_,dM.dK eD⟩;rw[filter_none kh.out,rA];exact T.grow eD
 have ky:eJ w1 g 147 cur:=(eD.block g (Array.getElem?_eq_some_iff.1 H).1).trans H;have hf0:Hid ((l.take (k0+1)).filter (λd => !p d)=l.take k0):=Q (by rw[vg ja,aA sx,filter_none kh]);replace kh:=Q kh;replace sx:=Q sx;have hne1:((k0:Int) == -1)=false:=beq_eq_false_iff_ne.2 ap;replace T:=Q T;replace j9:=Q j9;replace jQ:=Q jQ;go_wp2_with fail;go_loopw [5,6] (λi j wr=>∃(i' j':Nat)(cur':aP),i=J i'∧j=J j'∧j'<=n∧i'<j'∧i'=((l.take j').filter λd => !p d).length∧eJ wr g 147 cur'∧cur'.size=cap*2∧cur'.toList.take (i'*2)=fm ((l.take j').filter λd => !p d)∧(∀q,j'*2<=q->q<n*2->cur'[q]?=(fm l)[q]?)∧dM V w wr) (λ_ j _=>n-(intOf j).toNat);case atStart=>
  refine⟨k0,k0+1,cur,rfl,by go_num,by omega,by omega,by rw[hf0.out,bn];omega,ky,jQ.out,?_,λq _ hq=>?_,dM.dK eD⟩;·rw[hf0.out,fm,<-ki mN 2 iH,<-fm,<-j9.out,List.take_take,cz ap]
  ·rw[<-j9.out,List.getElem?_take,aA hq,Array.getElem?_toList]
 case round=>
  obtain⟨i,j,cu,rfl,rfl,Cw,wJ,vP,hB,iZ,zl,rJ,hj⟩:=hrel;replace vP:=Q vP;replace zl:=Q zl;replace rJ:=Q rJ;replace iZ:=Q iZ;have TP:=iZ.out;by_cases Ix:j<n
  ·have hjL:j<l.length:=by omega
   have c0:wr.cell? ⟨g,j*2,none⟩=some (aX l[j].1):=by rw[hB.cell,rJ.out (j*2) (bh _) ap];exact (flat_get mN 2 iH l j 0 hjL ap).trans rfl
   have c1:wr.cell? ⟨g,j*2+1,none⟩=some (ae ah (l[j].2:Int)):=by rw[hB.cell,rJ.out (j*2+1) ap ap];exact (flat_get mN 2 iH l j 1 hjL ap).trans rfl
   have hfn:Hid ((l.take (j+1)).filter (λd => !p d)=if p l[j]=true then (l.take j).filter (λd => !p d) else (l.take j).filter (λd => !p d)++[l[j]]):=Q (vg hjL);obtain⟨z,wa,HZ,HA⟩:∃z wa,Hid (z=(wr:Nat))∧Hid (wa=wr.alloc (.cells #[aX l[j].1,ae ah (l[j].2:Int)] 147)):=⟨_,_,Q rfl,Q rfl⟩;have fu:Grow wr wa:=by rw[HA.out];exact dT _ _
   have Yz:eJ wa z 147 #[aX l[j].1,ae ah (l[j].2:Int)]:=by rw[HA.out,HZ.out];exact eJ.made wr _ _
   have za:=(hFV wa (hj.trans (dM.dK fu))).2 wa (Grow.refl _) l[j] (bF hjL);have hBa:=hB.grow fu;generalize l[j]=d at c0 c1 Yz HA za hfn;obtain⟨s,x⟩:=d;dsimp only at c0 c1 Yz HA za;have z0:=Yz.cell 0;have z1:=Yz.cell 1;have hjz:dM V w wa:=hj.trans (dM.dK fu);go_wp2_with fail;rw[<-HA.out,<-HZ.out];go_wp2_with fail;refine za.mono ?_;rintro e w2 ⟨rfl,fk⟩;have z0:=(Yz.grow fk).cell 0;have z1:=(Yz.grow fk).cell 1;have lS:=hBa.grow fk;rcases bC (p (s,x)) with hb|hb
   ·replace hfn:=hfn.out
    rw[aA hb] at hfn;replace hfn:=Q hfn;go_wp2_with fail;exact⟨⟨i,j+1,cu,rfl,by go_num,by omega,by omega,by rw[hfn.out];exact vP.out,lS,iZ.out,by rw[hfn.out];exact zl.out,λq I G=>rJ.out q ap G,hjz.trans (dM.dK fk)⟩,by simp[intOf];omega⟩
   ·replace hfn:=hfn.out
    rw[aB (by rw[hb];simp)] at hfn;replace hfn:=Q hfn;go_wp2_with (refine pX rfl 147 (.tmp 33) (.tmp 32) rfl g (i*2) rfl [aX s,ae ah x] rfl lS (by simp;omega) rfl aw rfl ?_;intro w3 F9 mz _;refine stay ?_);refine dI ?_;have mn:i*2+[Value.string s,ae ah x].length<=cu.size:=by simp;omega
    have p1:=Q (Az cu (i*2) _ mn);have p2:=Q (KQ cu (i*2) _ mn);have p3:=Q (KR cu (i*2) _ mn);have hjw:dM V w w3:=(hjz.trans (dM.dK fk)).trans (mz.imp λb hb=>hb▸hV);generalize (cu.toList.take (i*2)++[Value.string s,ae ah x]++cu.toList.drop (i*2+[Value.string s,ae ah x].length)).toArray=cu' at F9 p1 p2 p3;go_wp2_with fail;exact⟨⟨i+1,j+1,cu',by go_num,by go_num,by omega,by omega,by rw[hfn.out,bd,<-vP.out];rfl,F9,p1.out.trans iZ.out,by rw[hfn.out,show (i+1)*2=i*2+[Value.string s,ae ah x].length by simp;omega,p2.out,zl.out];simp[fm,mN],λq I G=>(p3.out q (by simp;omega)).trans (rJ.out q ap G),hjw⟩,by simp[intOf];omega⟩
  ·have Gu:j=n:=by omega
   replace Gu:=Q Gu;have kT:i<cap:=by omega
   have za:∀ty,(Builtin.clear_ #[38] ty #[Z (some ⟨g,i*2,none⟩) (n-i) (cap-i)]).run W wr=.ok (a_ #[]) (wr.setCells g (i*2) (bM (aZ #[.string .empty,ae ah 0]:K).cells (n-i)).toList):=λty=>by refine j_ oQ (sG oQ) (by simp[Value.cells,Value.oneCell']) wr ty g (i*2) (n-i) (cap-i) ap (λq hq=>?_) (λq hq=>hB.frozen _);rw[hB.cell,Array.getElem?_eq_getElem ap];rfl
   go_wp2;go_ret;have Qr:(l.filter λd => !p d)=(l.take j).filter λd => !p d:=by rw[Gu.out,<-rA,dq]
   have hZl:(bM #[Value.string ByteArray.empty,Value.int IntKind.u64 0] (n-i)).toList.length=(n-i)*2:=by simp[bM]
   generalize (bM #[Value.string ByteArray.empty,Value.int IntKind.u64 0] (n-i)).toList=abe at hZl ⊢;have mn:i*2+abe.length<=cu.size:=by omega
   refine⟨_,rfl,⟨ka _,.inr ⟨g,cap,_,by rw[Qr,<-vP.out];rfl,hV,hB.part (i*2) abe mn,by rw[Qr,<-vP.out];omega,iO,(Az cu _ _ mn).trans iZ.out,?_⟩⟩,hj.trans ((uo g (i*2) abe wr).imp λb hb=>hb▸hV)⟩;rw[Qr,<-vP.out,show ∀l:List K,l.toArray.toList=l from λ_=>rfl,bp,List.take_append_of_le_length (by simp;omega),List.take_take,Nat.min_self,zl.out]
open V
def pg(e:En):List UInt8:=if e.k=2 then [UInt8.ofNat 2]++enc e.fr.toNat++enc e.tg.toNat++enc e.se.size++e.se.data.toList
 else [UInt8.ofNat 1]++enc e.fr.toNat++enc e.tg.toNat++([e.ag.toNat,e.sh.toNat,e.sq.toNat,e.ep.toNat,e.ds.length].flatMap enc)++o7 e.ds
theorem qb:∀(l:aQ),(∀n∈l,n<18446744073709551616)->(l.flatMap enc).length<=l.length*10
 | [],_=>by simp
 | n::l,h=>by
   have I:=qb l λx Y=>h x (by simp[Y]);have G:=eE (h n (by simp));rw[bJ,bd,bD];omega
theorem Jc{e:En}(h:e.abq):∀d∈e.ds,Small d:=λd hd=>by obtain⟨I,G,L,h4⟩:=h.2.2.2.2.2.2.2 d hd;exact⟨h4,by omega⟩
theorem S1(w:X)(e:En)(V:aV)(A:aU)(c:Nat)(gC:e.Ok)(hr:e.R)(hd:jM w V A e.ds.length e.ds):dz W 239 #[aZ (e.agg A c)] w λen O=>∃v,en=b5 (a_ #[v,()])∧Grow w O∧eM (pg e) v O:=by
 obtain⟨⟨qX,KS⟩,_⟩:=id gC;obtain⟨k,ag,sh,sq,ep,ds,se,fr,tg⟩:=e;obtain⟨I,G,L,h4,h5,h6,h7,iZ⟩:=hr;simp only at I G L h4 h5 h6 iZ qX KS;subst I G L h4 h5 h6;obtain⟨F,rfl⟩:=cU qX.1;obtain⟨abf,rfl⟩:=cU KS.1;unfold En.agg;dsimp only[cx] at hd ⊢;have gl:=dT w (.cells #[J 2,(),(),(),(),Z A 0 c,aX se,J F,J abf] 40);have hB:=eJ.made w 40 #[J 2,(),(),(),(),Z A 0 c,aX se,J F,J abf];obtain⟨x,HX⟩:=az ((w:Nat):Nat);obtain⟨wa,HA⟩:=az (w.alloc (.cells #[J 2,(),(),(),(),Z A 0 c,aX se,J F,J abf] 40):X);rw[<-HA.out] at hB gl;rw[<-HX.out] at hB;have Y:x<(wa:Nat):=hB.lt;have T:=ju wa _ V A c gC (In.grow hd gl);unfold En.agg at T;dsimp only at T;have c0:=λ(w1:X)(H:Grow wa w1)=>(hB.grow H).cell 0;go_in;go_wp2_with fail;rw[<-HA.out,<-HX.out];refine T.mono ?_;rintro e w2 ⟨rfl,fk⟩;have i4:=hB.grow fk;have vR:=gl.trans fk;have wF:IntKind.u64.wrap (F:Int)=(F:Int):=by rw[wrap_u64];omega
 have wG:IntKind.u64.wrap (abf:Int)=(abf:Int):=by rw[wrap_u64];omega
 clear T c0;go_wp2_with fail;have gd:Grow w2 w2.drew:=(Grow.refl _).drew;refine dJ rfl ?_;refine gi (Grow w2) 13 rfl ?_;refine held 0 rfl gd (λw1 E R T=>by have c0:=(i4.grow E).cell 0;have c7:=(i4.grow E).cell 7;have c8:=(i4.grow E).cell 8;go_simp;exact T) ?_;refine held 1 rfl gd (λw1 E R T=>by have c0:=(i4.grow E).cell 0;have c7:=(i4.grow E).cell 7;have c8:=(i4.grow E).cell 8;go_simp;exact T) ?_;refine held 2 rfl gd (λw1 E R T=>by have c0:=(i4.grow E).cell 0;have c7:=(i4.grow E).cell 7;have c8:=(i4.grow E).cell 8;go_simp;exact T) ?_;refine held 4 rfl gd (λw1 E R T=>by have c0:=(i4.grow E).cell 0;have c7:=(i4.grow E).cell 7;have c8:=(i4.grow E).cell 8;go_simp;exact T) ?_;refine held 5 rfl gd (λw1 E R T=>by have c0:=(i4.grow E).cell 0;have c7:=(i4.grow E).cell 7;have c8:=(i4.grow E).cell 8;go_simp;exact T) ?_;refine held 6 rfl gd (λw1 E R T=>by have c0:=(i4.grow E).cell 0;have c7:=(i4.grow E).cell 7;have c8:=(i4.grow E).cell 8;go_simp;exact T) ?_;refine held 8 rfl gd (λw1 E R T=>by have c0:=(i4.grow E).cell 0;have c7:=(i4.grow E).cell 7;have c8:=(i4.grow E).cell 8;go_simp;exact T) ?_;refine held 9 rfl gd (λw1 E R T=>by have c0:=(i4.grow E).cell 0;have c7:=(i4.grow E).cell 7;have c8:=(i4.grow E).cell 8;go_simp;exact T) ?_;refine held 10 rfl gd (λw1 E R T=>by have c0:=(i4.grow E).cell 0;have c7:=(i4.grow E).cell 7;have c8:=(i4.grow E).cell 8;go_simp;exact T) ?_;refine dY 3 rfl ?_;refine fV rfl (R:=λv O=>Grow w2.drew O∧eM [UInt8.ofNat 2] v O) (gv (w:=w2.drew.alloc (.cells #[.int .u8 2] 5)) (by go_simp;rfl) ⟨dT w2.drew _,wP w2.drew #[.int .u8 2] 5 1 [UInt8.ofNat 2] rfl rfl am⟩) ?_;rintro v16 u0 ⟨CB,hb0⟩;replace CB:=gd.trans CB;go_wp2_with fail;refine⟨CB,?_⟩;refine dY 7 rfl ?_;go_wp2_with fail;refine (ic u0 v16 [UInt8.ofNat 2] F hb0 (by simp) ap).mono ?_;rintro en u1 ⟨v20,rfl,eD,lU⟩;replace eD:=CB.trans eD;go_wp2_with fail;refine⟨eD,?_⟩;refine dY 11 rfl ?_;go_wp2_with fail;refine (ic u1 v20 ([UInt8.ofNat 2]++enc F) abf lU (by have:=eE (n:=F) ap;rw[bd];simp only[bv];omega) ap).mono ?_;rintro en w1 ⟨v24,rfl,H,hE⟩;replace H:=eD.trans H;go_wp2_with fail;refine⟨H,?_⟩;refine held 12 rfl H (λw1 E=>aM) ?_;refine eU ?_;have c0:=(i4.grow H).cell 0;have c6:=(i4.grow H).cell 6;have hTx:=t8 w1 v24 _ se hE (by have:=eE (n:=F) ap;have:=eE (n:=abf) ap;simp only[bd,bv];omega) ap;go_wp2_with fail;refine hTx.mono ?_;rintro e w3 ⟨v3,rfl,ib,Jd⟩;go_wp2;go_ret2;refine⟨v3,rfl,vR.trans (H.trans ib),?_⟩;unfold pg;rw[aA rfl];simpa only[cA,bp] using Jd
theorem S2(w:X)(e:En)(V:aV)(A:aU)(c:Nat)(gC:e.Ok)(hr:e.abq)(hd:jM w V A e.ds.length e.ds):dz W 239 #[aZ (e.agg A c)] w λen O=>∃v,en=b5 (a_ #[v,()])∧Grow w O∧eM (pg e) v O:=by
 obtain⟨⟨qX,KS⟩,_⟩:=id gC;have sB:=Jc hr;obtain⟨k,ag,sh,sq,ep,ds,se,fr,tg⟩:=e;obtain⟨I,G,L,h4,h5,h6,h7,_⟩:=hr;simp only at I G L h4 h5 h6 h7 qX KS sB;subst I G;obtain⟨F,rfl⟩:=cU qX.1;obtain⟨abf,rfl⟩:=cU KS.1;obtain⟨AG,rfl⟩:=cU L.1;obtain⟨SH,rfl⟩:=cU h4.1;obtain⟨SQ,rfl⟩:=cU (show 0<=sq by omega);obtain⟨EP,rfl⟩:=cU (show 0<=ep by omega);unfold En.agg;dsimp only at hd ⊢;have gl:=dT w (.cells #[J 1,J AG,J SH,J SQ,J EP,Z A ds.length c,"",J F,J abf] 40);have hB:=eJ.made w 40 #[J 1,J AG,J SH,J SQ,J EP,Z A ds.length c,"",J F,J abf];obtain⟨x,HX⟩:=az ((w:Nat):Nat);obtain⟨wa,HA⟩:=az (w.alloc (.cells #[J 1,J AG,J SH,J SQ,J EP,Z A ds.length c,"",J F,J abf] 40):X);rw[<-HA.out] at hB gl;rw[<-HX.out] at hB;have Y:x<(wa:Nat):=hB.lt;have T:=ju wa _ V A c gC (In.grow hd gl);unfold En.agg at T;dsimp only at T;have c0:=λ(w1:X)(H:Grow wa w1)=>(hB.grow H).cell 0;go_in;go_wp2_with fail;rw[<-HA.out,<-HX.out];refine T.mono ?_;rintro e w2 ⟨rfl,fk⟩;have i4:=hB.grow fk;have vR:=gl.trans fk;have wF:IntKind.u64.wrap (F:Int)=(F:Int):=by rw[wrap_u64];omega
 have wG:IntKind.u64.wrap (abf:Int)=(abf:Int):=by rw[wrap_u64];omega
 clear T c0;go_wp2_with fail;have gd:Grow w2 w2.drew:=(Grow.refl _).drew;refine dJ rfl ?_;refine gi (Grow w2) 13 rfl ?_;refine held 0 rfl gd (λw1 E R T=>by have c0:=(i4.grow E).cell 0;have c7:=(i4.grow E).cell 7;have c8:=(i4.grow E).cell 8;go_simp;exact T) ?_;refine held 1 rfl gd (λw1 E R T=>by have c0:=(i4.grow E).cell 0;have c7:=(i4.grow E).cell 7;have c8:=(i4.grow E).cell 8;go_simp;exact T) ?_;refine held 2 rfl gd (λw1 E R T=>by have c0:=(i4.grow E).cell 0;have c7:=(i4.grow E).cell 7;have c8:=(i4.grow E).cell 8;go_simp;exact T) ?_;refine held 4 rfl gd (λw1 E R T=>by have c0:=(i4.grow E).cell 0;have c7:=(i4.grow E).cell 7;have c8:=(i4.grow E).cell 8;go_simp;exact T) ?_;refine held 5 rfl gd (λw1 E R T=>by have c0:=(i4.grow E).cell 0;have c7:=(i4.grow E).cell 7;have c8:=(i4.grow E).cell 8;go_simp;exact T) ?_;refine held 6 rfl gd (λw1 E R T=>by have c0:=(i4.grow E).cell 0;have c7:=(i4.grow E).cell 7;have c8:=(i4.grow E).cell 8;go_simp;exact T) ?_;refine held 8 rfl gd (λw1 E R T=>by have c0:=(i4.grow E).cell 0;have c7:=(i4.grow E).cell 7;have c8:=(i4.grow E).cell 8;go_simp;exact T) ?_;refine held 9 rfl gd (λw1 E R T=>by have c0:=(i4.grow E).cell 0;have c7:=(i4.grow E).cell 7;have c8:=(i4.grow E).cell 8;go_simp;exact T) ?_;refine held 10 rfl gd (λw1 E R T=>by have c0:=(i4.grow E).cell 0;have c7:=(i4.grow E).cell 7;have c8:=(i4.grow E).cell 8;go_simp;exact T) ?_;refine dY 3 rfl ?_;refine fV rfl (R:=λv O=>Grow w2.drew O∧eM [UInt8.ofNat 1] v O) (gv (w:=w2.drew.alloc (.cells #[.int .u8 1] 5)) (by go_simp;rfl) ⟨dT w2.drew _,wP w2.drew #[.int .u8 1] 5 1 [UInt8.ofNat 1] rfl rfl am⟩) ?_;rintro v16 u0 ⟨CB,hb0⟩;replace CB:=gd.trans CB;go_wp2_with fail;refine⟨CB,?_⟩;refine dY 7 rfl ?_;go_wp2_with fail;refine (ic u0 v16 [UInt8.ofNat 1] F hb0 (by simp) ap).mono ?_;rintro en u1 ⟨v20,rfl,eD,lU⟩;replace eD:=CB.trans eD;go_wp2_with fail;refine⟨eD,?_⟩;refine dY 11 rfl ?_;go_wp2_with fail;refine (ic u1 v20 ([UInt8.ofNat 1]++enc F) abf lU (by have:=eE (n:=F) ap;rw[bd];simp only[bv];omega) ap).mono ?_;rintro en w1 ⟨v24,rfl,H,hE⟩;replace H:=eD.trans H;go_wp2_with fail;refine⟨H,?_⟩;refine held 12 rfl H (λw1 E=>aM) ?_;refine eU ?_;have Gv:=i4.grow H;have c0:=Gv.cell 0;have c1:=Gv.cell 1;have c2:=Gv.cell 2;have c3:=Gv.cell 3;have c4:=Gv.cell 4;have c5:=Gv.cell 5;have wA:IntKind.u64.wrap (AG:Int)=(AG:Int):=by rw[wrap_u64];omega
 have wS:IntKind.u64.wrap (SH:Int)=(SH:Int):=by rw[wrap_u64];omega
 have wQ:IntKind.u64.wrap (SQ:Int)=(SQ:Int):=by rw[wrap_u64];omega
 have wE:IntKind.u64.wrap (EP:Int)=(EP:Int):=by rw[wrap_u64];omega
 have wD:IntKind.u64.wrap (ds.length:Int)=(ds.length:Int):=by rw[wrap_u64];omega
 obtain⟨L0,Ml⟩:=az ([UInt8.ofNat 1]++enc F++enc abf);rw[<-Ml.out] at hE;have QN:L0.length<=21:=by have:=eE (n:=F) ap;have:=eE (n:=abf) ap;rw[Ml.out];simp only[bd,bv];omega
 obtain⟨abp,HN⟩:=az ([AG,SH,SQ,EP,ds.length]:List Nat);have hN5:abp.length=5:=by rw[HN.out];rfl
 have hNs:∀n∈abp,n<18446744073709551616:=by rw[HN.out];intro n hn;simp at hn;omega
 have hgn:=dT w1 (.cells #[ae ah AG,ae ah SH,ae ah SQ,ae ah EP,ae ah ds.length] 42);have hNb:=eJ.made w1 42 #[ae ah AG,ae ah SH,ae ah SQ,ae ah EP,ae ah ds.length];obtain⟨y,HY⟩:=az ((w1:Nat):Nat);obtain⟨wb,HB⟩:=az (w1.alloc (.cells #[ae ah AG,ae ah SH,ae ah SQ,ae ah EP,ae ah ds.length] 42):X);rw[<-HB.out] at hNb hgn;rw[<-HY.out] at hNb;have hEb:=hE.below hgn;have hNc:∀(wr:X),Grow wb wr->∀k,(N:k<abp.length)->wr.cell? ⟨y,k,none⟩=some (ae ah (abp[k]:Int)):=λwr gP k N=>by
  rw[(hNb.grow gP).cell k];subst_eqs;have h5:k<5:=by omega
  have hN:=HN.out;subst hN;match k,h5 with
  | 0,_=>rfl
  | 1,_=>rfl
  | 2,_=>rfl
  | 3,_=>rfl
  | 4,_=>rfl
 have S3:=Gv.grow hgn;have fu:=vR.trans (H.trans hgn);go_wp2_with fail;rw[<-HB.out,<-HY.out];clear c0 c1 c2 c3 c4 c5;go_loopw [5,53] (λv i wr=>∃k:Nat,k<=5∧i=J k∧eM (L0++(abp.take k).flatMap enc) v wr∧Grow wb wr) (λ_ i _=>5-(intOf i).toNat);case atStart=>exact⟨0,by omega,rfl,by simpa using hEb,Grow.refl _⟩
 case round=>
  obtain⟨k,oL,rfl,hI,gP⟩:=hrel;by_cases N:k<5
  ·have cN:=hNc wr gP k ap
   clear hNc;have hkN:k<abp.length:=by omega
   have vq:abp.take (k+1)=abp.take k++[abp[k]]:=br hkN;have fS:=hNs _ (bF hkN);have HS:=Q vq;clear vq;generalize abp[k]=m at cN fS HS;have mn:=qb (abp.take k) λn hn=>hNs n (bW hn);rw[bn] at mn;have hPt:=ic wr u5 _ m hI (by rw[bd];omega) fS;have QL:decide ((k:Int)<5)=true:=aC ap;go_wp2_with fail;refine hPt.mono ?_;rintro e w3 ⟨v3,rfl,ib,Jd⟩;go_wp2_with fail;go_roundw;case rel=>exact⟨k+1,by omega,by go_num,by rw[HS.out,bL,bJ,cE,bm,<-bp];exact Jd,gP.trans ib⟩
   case measure=>simp[intOf];omega
  ·obtain rfl:k=5:=by omega
   have c5:=(S3.grow gP).cell 5;rw[bH ap] at hI;have mn:=qb abp hNs;have hDp:=uE wr u5 _ V A ds.length c ds hI (by rw[bd];omega) (In.grow hd (fu.trans gP)) ap sB;go_wp2_with fail;refine hDp.mono ?_;rintro e w3 ⟨v3,rfl,ib,Jd⟩;go_wp2;go_ret2;refine⟨v3,rfl,fu.trans (gP.trans ib),?_⟩;unfold pg;rw[aB (show ¬ (1:Int)=2 by decide)];dsimp only;rw[cA,cA,cA,cA,cA,cA,<-HN.out,<-Ml.out];exact Jd
theorem DW(w:X)(e:En)(V:aV)(A:aU)(c:Nat)(gC:e.Ok)(hd:jM w V A e.ds.length e.ds):dz W 239 #[aZ (e.agg A c)] w λen O=>∃v,en=b5 (a_ #[v,()])∧Grow w O∧eM (pg e) v O:=
 gC.2.elim (λh=>S2 w e V A c gC h hd) (λh=>S1 w e V A c gC h hd)
def iJ(k:Nat)(ns:aQ):List UInt8:=enc k++ns.flatMap enc
theorem tj:∀(ns:aQ),(∀x∈ns,x<18446744073709551616)->(ns.flatMap enc).length<=ns.length*10
 | [],_=>by simp
 | x::ns,h=>by
   have:=tj ns λy hy=>h y (by simp[hy]);have:=eE (h x (by simp));simp only[bJ,bd,bD];omega
theorem mR(w:X)(k:Nat)(A:aU)(n c:Nat)(ns:aQ)(D:aV)(h:In w D 1 A n (ns.map λ(x:Nat) => J x))(N:k<18446744073709551616)(hn:n<=8)(hs:∀x∈ns,x<=9223372036854775807):dz W 259 #[ae ah k,Z A n c] w λe O=>∃v,e=b5 v∧Grow w O∧eM (iJ k ns) v O:=by
 have rA:ns.length=n:=by have:=h.1;simpa using this
 have hP:=ic w _ [] k (ve w) (by simp) N;go_in;go_wp2_with fail;refine hP.mono ?_;rintro e w1 ⟨v1,rfl,eD,Ma⟩;have a1u:=eE N;go_wp2_with fail;go_loopw [5,12] (λv i wr=>∃j:Nat,j<=n∧i=J j∧eM (iJ k (ns.take j)) v wr∧Grow w wr) (λ_ i _=>n-(intOf i).toNat);case atStart=>exact⟨0,by omega,rfl,by simpa [iJ] using Ma,eD⟩
 case round=>
  obtain⟨j,Cw,rfl,hB,gP⟩:=hrel;by_cases hj:j<n
  ·obtain⟨ad,hA,hD,fS,E⟩:=(h.grow gP).2 ap
   subst hA;have hq:j<ns.length:=by omega
   have e0:=E j (J (ns[j]:Int)) (by simp[hq]);have e1:wr.cell? (ad.add (j*1))=some (J (ns[j]:Int)):=by rw[cM];exact e0
   have vq:ns.take (j+1)=ns.take j++[ns[j]]:=br hq;have HS:=Q vq;have sB:=hs _ (bF hq);have hl:=tj (ns.take j) λx Y=>by have:=hs x (bW Y);omega
   rw[bn,cz ap] at hl;clear vq E;generalize ns[j]=x at e0 e1 sB HS;have Y:IntKind.u64.wrap (x:Int)=(x:Int):=by rw[wrap_u64];omega
   have QN:(iJ k (ns.take j)).length<=1099511627776:=by unfold iJ;rw[bd];omega
   clear hl;have hP:=ic wr u5 _ x hB QN ap;go_wp2_with fail;refine hP.mono ?_;rintro e w2 ⟨v2,rfl,fk,It⟩;have Qy:eM (iJ k (ns.take (j+1))) v2 w2:=by rw[HS.out];unfold iJ at It ⊢;rw[bL,List.flatMap_singleton,<-bp];exact It
   go_wp2_with fail;go_roundw;case rel=>exact⟨j+1,by omega,by go_num,Qy,gP.trans fk⟩
   case measure=>simp[intOf];omega
  ·obtain rfl:j=n:=by omega
   rw[bH ap] at hB;go_wp2;go_ret;exact⟨_,rfl,gP,hB⟩
theorem Gw(w:X)(n:Nat)(hn:n<=9223372036854775807):dz W 200 #[J n] w λe O=>∃v,e=b5 v∧Grow w O∧eM (iJ 1 [n]) v O:=by have fu:=dT w (.cells #[J n] 2);have hB:=eJ.made w 2 #[J n];have T:=mR _ 1 (some ⟨(w:Nat),0,none⟩) 1 1 [n] (λb=>b=(w:Nat)) (hB.jL (size:=1) (n:=1) rfl) am am (by intro x Y;simp only[cI,cF,or_false] at Y;omega);go_in;go_wp2_with fail;refine T.mono ?_;rintro e w1 ⟨v,rfl,H,hI⟩;go_wp2;go_ret;exact⟨v,rfl,fu.trans H,hI⟩
theorem KT(w:X)(k n:Nat)(N:k<=9223372036854775807)(hn:n<=9223372036854775807):dz W 329 #[J k,J n] w λe O=>∃v,e=b5 v∧Grow w O∧eM (iJ 5 [k,n]) v O:=by have fu:=dT w (.cells #[J k,J n] 2);have hB:=eJ.made w 2 #[J k,J n];have T:=mR _ 5 (some ⟨(w:Nat),0,none⟩) 2 2 [k,n] (λb=>b=(w:Nat)) (hB.jL (size:=1) (n:=2) rfl) am am (by intro x Y;simp only[cI,cF,or_false] at Y;omega);go_in;go_wp2_with fail;refine T.mono ?_;rintro e w1 ⟨v,rfl,H,hI⟩;go_wp2;go_ret;exact⟨v,rfl,fu.trans H,hI⟩
end Go.Proofs.YtpeepcmdehhbgaaGreatDoor
