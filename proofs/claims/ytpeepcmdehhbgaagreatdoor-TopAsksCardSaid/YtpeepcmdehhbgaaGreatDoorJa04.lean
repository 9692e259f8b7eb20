import Derived.Test.YtpeepcmdehhbgaaGreatDoorJa03
import Derived.Lib.ConvBytes
import Derived.Sort.Grow
import Derived.Shelf.SlSortCmp.WholeK
import Derived.Shelf.SlSortCmp.NoneTotal
set_option linter.all false
set_option maxRecDepth 100000
set_option maxHeartbeats 2000000
open Go.Value renaming int->ae,slice->Z,string->aX,bool->aY,agg->aZ,tuple->a_
open Go.Ending renaming returned->b5
open Go.IntKind renaming i64->af,u64->ah
open Go.Proofs.Tryz renaming prog->W,underlying9->cW,underlying5->dm,underlying3->dp
open Go.Lib renaming hid->Q
open List renaming length_append->bd,append_nil->bm,length_take->bn,append_assoc->bp,take_succ_eq_append_getElem->br,eq_nil_of_length_eq_zero->bu,length_singleton->bv,length_cons->bD,getElem_mem->bF,take_of_length_le->bH,flatMap_cons->bJ,flatMap_append->bL,length_drop->bO,drop_eq_getElem_cons->bP,map_cons->bQ,mem_of_mem_take->bW,length_nil->cx,size_toArray->cy,flatMap_nil->cE,not_mem_nil->cF,mem_cons->cI,drop_eq_nil_of_le->cR,take_length->dq,drop_of_length_le->cH,set_cons_succ->bz,set_cons_zero->bA,length_set->dh,length_map->bj,map_append->bI,map_nil->cQ,nil_append->ch,length_filter_le->c_
open Nat renaming le_refl->bh,zero_le->bo,le_trans->bB,eq_zero_or_pos->b_,min_eq_left->cz,mul_one->cM,lt_of_lt_of_le->bw,mul_le_mul_right->cK,zero_add->cJ,le_of_ble_eq_true->bf,le_succ_of_le->dw
open Bool renaming eq_false_or_eq_true->bC,and_eq_true->bU
open Go.Builtin renaming zeroCells->bM
open Array renaming length_toList->bZ
open Int renaming toNat_natCast->cA,eq_ofNat_of_zero_le->cU
open Go renaming Value->K,World->X,Calls->dz,Addr->dA,TypeId->dC,Oper->dE,maxLen->dG
open Option renaming map_some->df
open Go (J az aE aA aB aC aD ay aj am ap aw aL aK aJ aI aH aV aU aT aR aQ aP aO aN)
section
variable{P:Prop}
namespace Go.Proofs.YtpeepcmdehhbgaaGreatDoor
open RowKit Hop
def oz(P:Prop)(en:Ending):Prop:=∃abl:Int,en=b5 (J abl)∧(abl=0↔P)
theorem oz.yes(h:P):oz P (b5 (J 0)):=⟨0,rfl,by simp[h]⟩
theorem oz.no{abl:Int}(h:¬ P)(hE:abl≠0):oz P (b5 (J abl)):=⟨abl,rfl,by simp[h,hE]⟩
theorem rY(w:X)(n m:Int):dz W 186 #[J n,J m] w λe O=>e=b5 (aY (decide (0<=n∧n<m)))∧w=O:=by
 by_cases h0:0<=n
 ·by_cases I:n<m
  ·have d0:decide (n >= 0)=true:=aC h0
   rw[aC (show 0<=n∧n<m from ⟨h0,I⟩)];go_in;go_wp2;go_ret;trivial
  ·have d0:decide (n >= 0)=true:=aC h0
   rw[aD (show ¬ (0<=n∧n<m) from λh=>I h.2)];go_in;go_wp2;go_ret;trivial
 ·have d0:decide (n >= 0)=false:=aD h0
  rw[aD (show ¬ (0<=n∧n<m) from λh=>h0 h.1)];go_in;go_wp2;go_ret;trivial
theorem RX(w:X)(s:aR)(x:Nat):dz W 244 #[aZ #[aX s,ae ah x]] w λe O=>e=b5 (aY (decide (x=0)))∧Grow w O:=by
 have h:((x:Int) == 0)=decide (x=0):=by rw[Bool.eq_iff_iff];simp
 go_in;go_wp2;go_ret;exact⟨rfl,(Below.refl _ w).alloc (bh _) _⟩
def UA(l:List Dl):Prop:=∃d∈l,d.2=0
def a4i(P:Prop)(en:Ending):Prop:=∃z:Int,en=b5 (J z)∧(0<=z↔P)
theorem Gt(w:X)(V:aV)(A:aU)(n c:Nat)(l:List Dl)(h:jM w V A n l)(hl:l.length=n)(hn:n<=1048576):dz W 302 #[Z A n c,.func (.func 244) #[] #[]] w λe O=>a4i (UA l) e∧Grow w O:=by
 go_in;go_wp2_with fail;go_loopw [8] (λi wr=>∃k:Nat,k<=n∧i=J k∧(∀d∈l.take k,d.2≠0)∧Grow w wr) (λi _=>n-(intOf i).toNat);case atStart=>exact⟨0,by omega,rfl,by simp,Grow.refl _⟩
 case round=>
  obtain⟨k,oL,rfl,fS,gP⟩:=hrel;by_cases N:k<n
  ·obtain⟨ad,hq,rfl,f0,f1⟩:=kn (In.grow h gP) N
   have e0:=f0 wr (Grow.refl _);have e1:=f1 wr (Grow.refl _);have m9:l[k]∈l:=bF hq;have j9:∀d∈l.take (k+1),d.2=0->d=l[k]:=λd hd h0=>by
    rw[br hq] at hd;rcases List.mem_append.1 hd with hd|hd
    ·exact absurd h0 (fS d hd)
    ·exact List.mem_singleton.1 hd
   generalize l[k]=y at e0 e1 m9 j9;obtain⟨s,x⟩:=y;dsimp only at e0 e1;have E:=RX wr s x;replace fS:=Q fS;replace j9:=Q j9;clear f0 f1;go_wp2_with fail;refine E.mono ?_;by_cases Y:x=0
   ·rw[aC Y]
    rintro e w2 ⟨rfl,fk⟩;go_wp2;go_ret;exact⟨⟨(k:Int),rfl,by constructor<;>intro _;exact⟨_,m9,Y⟩;omega⟩,gP.trans fk⟩
   ·rw[aD Y]
    rintro e w2 ⟨rfl,fk⟩;go_wp2_with fail;exact⟨⟨k+1,by omega,by go_num,λd hd h0=>Y (by rw[j9.out d hd h0] at h0;exact h0),gP.trans fk⟩,by simp[intOf];omega⟩
  ·obtain rfl:k=n:=by omega
   replace fS:=Q fS;go_wp2;go_ret;exact⟨⟨-1,rfl,by
    constructor;·intro h;omega
    ·rintro ⟨d,hd,h0⟩;exact absurd h0 (fS.out d (by rw[<-hl,dq];exact hd))⟩,gP⟩
def vf(P:Prop)(en:Ending):Prop:=∃b:Bool,en=b5 (aY b)∧(b=true↔P)
theorem zk(w:X)(V:aV)(A:aU)(n c:Nat)(l:List Dl)(h:jM w V A n l)(hl:l.length=n)(hn:n<=1048576):dz W 243 #[Z A n c,.func (.func 244) #[] #[]] w λe O=>vf (UA l) e∧Grow w O:=by have hI:=Gt w V A n c l h hl hn;go_in;go_wp2_with fail;refine hI.mono ?_;rintro e w2 ⟨⟨z,rfl,hz⟩,fk⟩;replace hz:=Q hz;go_wp2;go_ret;exact⟨⟨decide (z >= 0),rfl,by rw[decide_eq_true_eq];exact hz.out⟩,fk⟩
theorem DR{α:Type}(f:α->List UInt8)(m:Nat):∀(q:List α),(∀d∈q,(f d).length<=m)->((q.map f).flatten).length<=q.length*m
 | [],_=>by simp
 | d::q,h=>by
   have I:=DR f m q λx Y=>h x (by simp[Y]);have G:=h d (by simp);simp only[bQ,List.flatten_cons,bd,bD,Nat.add_mul];omega
open abn in
theorem jt{s:aR}(h:fW s=0):s.size<=1000:=by
 unfold fW at h;split at h
 ·rename_i I
  unfold mx at I;simp only[bU,decide_eq_true_eq] at I;obtain⟨G,L⟩:=I;obtain⟨h8,hf⟩:=xH G;have hb:=Gh (fM s);have hq:∀d∈can (fM s),(ox d).length<=65:=λd hd=>by have h4:=((mP _).1 hf).1 d (hb.perm.mem_iff.1 hd);unfold CH at h4;rw[bU] at h4;have h5:=lg h4.1;have h6:=lg h4.2;unfold ox;rw[bd,bD];have e1:d.1.data.toList.length=d.1.size:=bZ;have e2:d.2.data.toList.length=d.2.size:=bZ;omega
  have hl:(can (fM s)).length<=8:=by rw[hb.perm.length_eq];exact h8
  have e:s.size=(Gi (can (fM s))).length:=(congrArg ByteArray.size L).symm.trans (by simp[txt,mk,ByteArray.size]);rw[e];generalize can (fM s)=q at hq hl;cases q with
  | nil=>simp[Gi,Lib.join]
  | cons d q=>
    rw[Aj,bd];have h7:=DR (λd=>44::ox d) 66 q λx Y=>by have:=hq x (by simp[Y]);rw[bD];omega
    have h9:=hq d (by simp);rw[bD] at hl;omega
 ·cases h
structure En.Rt(e:En):Prop where
 sq:e.sq<=9223372036854775807
 ep:e.ep<=9223372036854775807
 tg:e.tg<=9223372036854775807
 ds:∀d∈e.ds,d.2<=18446744073709551615∧d.1.size<=1000000
 se:e.se.size<=1000000
 n:e.ds.length<=1048576
theorem DT(w:X)(e:En)(V:aV)(A:aU)(c:Nat)(hr:e.Rt)(N:e.k=1)(zb:e.se=⟨#[]⟩)(hd:jM w V A e.ds.length e.ds):dz W 187 #[aZ (e.agg A c)] w λen O=>oz e.abq en∧Grow w O:=by
 obtain⟨abq,HW⟩:=az (e.abq);rw[<-HW.out];obtain⟨k,ag,sh,sq,ep,ds,se,fr,tg⟩:=e;obtain⟨r1,r2,r3,r4,r5,r6⟩:=hr;have Mm:abq↔((0<=ag∧ag<8)∧(0<=sh∧sh<4)∧1<=sq∧1<=ep∧(1<=ds.length∧ds.length<=8)∧∀d∈ds,DN d):=by rw[HW.out];unfold En.abq;dsimp only at N zb r1 r2 ⊢;exact⟨λh=>⟨h.2.2.1,h.2.2.2.1,h.2.2.2.2.1.1,h.2.2.2.2.2.1.1,h.2.2.2.2.2.2.1,h.2.2.2.2.2.2.2⟩,λh=>⟨N,zb,h.1,h.2.1,⟨h.2.2.1,r1⟩,⟨h.2.2.2.1,r2⟩,h.2.2.2.2.1,h.2.2.2.2.2⟩⟩
 clear HW;unfold En.agg;dsimp only at N zb r1 r2 r3 r4 r5 r6 hd ⊢;subst N zb;obtain⟨n,HN⟩:=az (ds.length);rw[<-HN.out] at hd r6 Mm ⊢;replace Mm:=Q Mm;have hS:=St.begin_ (l:=[]) (w:=w) (V:=λ_=>False) trivial (λ_ h=>h.elim) trivial;obtain⟨x,wa,HX,HA,hS⟩:=hS.new' #[J 1,J ag,J sh,J sq,J ep,Z A n c,"",J fr,J tg] 40;have gl:Grow w wa:=hS.grown;have E:=hS.facts;simp only[ec] at E;go_in;go_wp2_with fail;rw[<-HA.out,<-HX.out];refine (rY wa ag 8).mono ?_;rintro e w1 ⟨rfl,rfl⟩;by_cases I:0<=ag∧ag<8;case neg=>
  rw[aD I];go_wp2;go_ret;exact⟨oz.no (λh=>I (Mm.out.1 h).1) am,gl⟩
 rw[aC I];go_wp2_with fail;refine (rY wa sh 4).mono ?_;rintro e w1 ⟨rfl,rfl⟩;by_cases G:0<=sh∧sh<4;case neg=>
  rw[aD G];go_wp2;go_ret;exact⟨oz.no (λh=>G (Mm.out.1 h).2.1) am,gl⟩
 rw[aC G];by_cases L:sq<1
 ·have d3:decide (sq<1)=true:=aC L
  replace L:=Q L;go_wp2;go_ret;exact⟨oz.no (λh=>by have:=(Mm.out.1 h).2.2.1;have:=L.out;omega) am,gl⟩
 have d3:decide (sq<1)=false:=aD L;by_cases h4:ep<1
 ·have d4:decide (ep<1)=true:=aC h4
  replace h4:=Q h4;go_wp2;go_ret;exact⟨oz.no (λh=>by have:=(Mm.out.1 h).2.2.2.1;have:=h4.out;omega) am,gl⟩
 have d4:decide (ep<1)=false:=aD h4;by_cases h5:n<=8;case neg=>
  have d5:decide ((8:Int)<(n:Int))=true:=aC ap;go_wp2;go_ret;exact⟨oz.no (λh=>h5 (Mm.out.1 h).2.2.2.2.1.2) am,gl⟩
 have d5:decide ((8:Int)<(n:Int))=false:=aD ap;by_cases h6:n=0
 ·have d6:((n:Int) == 0)=true:=by simp[h6]
  replace h6:=Q h6;go_wp2;go_ret;exact⟨oz.no (λh=>by have:=(Mm.out.1 h).2.2.2.2.1.1;have:=h6.out;omega) am,gl⟩
 have d6:((n:Int) == 0)=false:=beq_eq_false_iff_ne.2 ap;have hda:=In.grow hd gl;have hC:=zk wa V A n c ds hda HN.out.symm ap;go_wp2_with fail;refine hC.mono ?_;rintro e w1 ⟨⟨b,rfl,hb⟩,eD⟩;replace hb:=Q hb;rcases bC b with h7|h7
 ·subst h7
  go_wp2;go_ret;exact⟨oz.no (λh=>by obtain⟨d,hd,h0⟩:=hb.out.1 trivial;have:=((Mm.out.1 h).2.2.2.2.2 d hd).1;omega) am,gl.trans eD⟩
 subst h7;have hdb:=In.grow hda eD;have c5':=(hS.grow eD).facts;simp only[ec] at c5';have mK:=gl.trans eD;clear E hC;go_wp2_with fail;clear c5';go_loopw [49] (λi wr=>∃k:Nat,k<=n∧i=J k∧(∀d∈ds.take k,DN d)∧Grow w1 wr) (λi _=>n-(intOf i).toNat);case atStart=>exact⟨0,by omega,rfl,by simp,Grow.refl _⟩
 case round=>
  obtain⟨k,oL,rfl,fS,gP⟩:=hrel;by_cases N:k<n
  ·obtain⟨ad,hq,rfl,f0,f1⟩:=kn (In.grow hdb gP) N
   have e0:=f0 wr (Grow.refl _);have e1:=f1 wr (Grow.refl _);have m9:ds[k]∈ds:=bF hq;have j9:DN ds[k]->∀d∈ds.take (k+1),DN d:=λho d hd=>by
    rw[br hq] at hd;rcases List.mem_append.1 hd with hd|hd
    ·exact fS d hd
    ·rw[List.mem_singleton.1 hd];exact ho
   have Yc:=r4 _ m9;generalize ds[k]=y at e0 e1 m9 j9 Yc;obtain⟨s,x2⟩:=y;dsimp only at e0 e1 Yc;have TU:1<=x2:=by
    rcases b_ x2 with h0|h0
    ·have:=hb.out.2 ⟨_,m9,h0⟩;cases this
    ·exact h0
   have hP:=abn.qL ((wr.alloc (.cells #[aX s,ae ah x2] 147))) s Yc.2;replace fS:=Q fS;replace j9:=Q j9;replace Yc:=Q Yc;clear f0 f1;by_cases hp:abn.fW s=0
   ·rw[hp] at hP
    replace hp:=Q hp;go_wp2_with fail;refine hP.mono ?_;rintro e w2 ⟨Ap,cp,rfl,_,_,fk⟩;have ib:Grow wr w2:=(dT wr _).trans fk;go_wp2_with fail;exact⟨⟨k+1,by omega,by go_num,j9.out ⟨TU,Yc.out.1,hp.out,jt hp.out⟩,gP.trans ib⟩,by simp[intOf];omega⟩
   ·have Cz:abn.fW s=12:=by unfold abn.fW at hp ⊢;split;rename_i h;rw[aA h] at hp;exact absurd rfl hp;rfl
    rw[Cz] at hP;replace Cz:=Q Cz;replace hp:=Q hp;go_wp2_with fail;refine hP.mono ?_;rintro e w2 ⟨Ap,cp,rfl,_,_,fk⟩;have ib:Grow wr w2:=(dT wr _).trans fk;go_wp2;go_ret;exact⟨oz.no (λh=>hp.out ((Mm.out.1 h).2.2.2.2.2 _ m9).2.2.1) am,mK.trans (gP.trans ib)⟩
  ·obtain rfl:k=n:=by omega
   replace fS:=Q fS;go_wp2;go_ret;exact⟨oz.yes (Mm.out.2 ⟨I,G,by omega,by omega,⟨by omega,h5⟩,λd hd=>fS.out d (by rw[HN.out,dq];exact hd)⟩),mK.trans gP⟩
theorem DU(s:aR):∀(n i:Nat)(r:aT),s.size-i=n->(ByteArray.toList.loop s i r).length=n+r.length
 | 0,i,r,h=>by
   unfold ByteArray.toList.loop;rw[aB ap];simp
 | n+1,i,r,h=>by
   unfold ByteArray.toList.loop;rw[aA ap,DU s n (i+1) _ ap];simp;omega
theorem toList_empty(s:aR):s.toList.isEmpty=true↔s=⟨#[]⟩:=by
 have h:s.toList.length=s.size:=by unfold ByteArray.toList;rw[DU s s.size 0 [] ap];simp
 constructor
 ·intro I
  have:s.size=0:=by rw[<-h,List.isEmpty_iff.1 I];rfl
  obtain⟨⟨l⟩⟩:=s;simp[ByteArray.size] at this;rw[this]
 ·rintro rfl;rw[List.isEmpty_iff];exact bu h
theorem vf.of{b:Bool}(h:b=true↔P):vf P (b5 (aY b)):=⟨b,rfl,h⟩
def En.Kd(e:En):Prop:=(e.k=1∧e.se=⟨#[]⟩)∨(e.k=2∧e.ag=0∧e.sh=0∧e.sq=0∧e.ep=0∧e.ds=[])
theorem NY(w:X)(e:En)(A:aU)(c:Nat):dz W 185 #[aZ (e.agg A c)] w λen O=>vf e.Kd en∧Grow w O:=by
 obtain⟨abq,HW⟩:=aE (e.Kd);rw[<-HW];obtain⟨k,ag,sh,sq,ep,ds,se,fr,tg⟩:=e;unfold En.Kd at HW;unfold En.agg;dsimp only at HW ⊢;have hn:ds=[]↔ds.length=0:=List.length_eq_zero_iff.symm;rw[hn] at HW;generalize ds.length=n at HW;clear hn;have H:∀o,Grow w (w.alloc o):=fb w;by_cases iP:k=1
 ·subst iP
  have HV:Hid (se.toList.isEmpty=true↔abq):=Q (by rw[HW,toList_empty];simp);clear HW;go_in;go_wp2;go_ret;exact⟨vf.of HV.out,H _⟩
 ·by_cases ip:k=2
  ·subst ip
   have HV:Hid (abq↔(ag=0∧sh=0∧sq=0∧ep=0∧n=0)):=Q (by rw[HW];simp);clear HW;have y_:((n:Int) == 0)=decide (n=0):=by rw[Bool.eq_iff_iff];simp
   go_in;by_cases h:ag=0∧sh=0∧sq=0∧ep=0∧n=0
   ·obtain⟨rfl,rfl,rfl,rfl,rfl⟩:=h
    go_wp2;go_ret;exact⟨vf.of (by simp[HV.out]),H _⟩
   ·have HV:Hid (¬ abq):=Q λhw=>h (HV.out.1 hw)
    have hX:(¬ ag=0)∨(ag=0∧¬ sh=0)∨(ag=0∧sh=0∧¬ sq=0)∨(ag=0∧sh=0∧sq=0∧¬ ep=0)∨(ag=0∧sh=0∧sq=0∧ep=0∧¬ n=0):=by omega
    clear h;rcases hX with I|⟨rfl,I⟩|⟨rfl,rfl,I⟩|⟨rfl,rfl,rfl,I⟩|⟨rfl,rfl,rfl,rfl,I⟩
    all_goals
     go_wp2
     go_ret
     refine⟨vf.of ?_,H _⟩
     simp[HV.out,I]
  ·have I:(k == 1)=false:=beq_eq_false_iff_ne.2 iP
   have G:(k == 2)=false:=beq_eq_false_iff_ne.2 ip;have HV:Hid (¬ abq):=Q (by rw[HW];intro h;rcases h with h|h<;>omega);clear HW;go_in;go_wp2;go_ret;exact⟨vf.of (by simp[HV.out]),H _⟩
theorem oy(w:X)(e:En)(V:aV)(A:aU)(c:Nat)(hr:e.Rt)(hd:jM w V A e.ds.length e.ds):dz W 125 #[aZ (e.agg A c)] w λen O=>oz e.Ok en∧Grow w O:=by
 obtain⟨abq,HW⟩:=aE (e.Ok);rw[<-HW];have hK:=λw1=>NY w1 e A c;have Yy:=λw1(H:Grow w w1)I G=>DT w1 e V A c hr I G (In.grow hd H);have jN:=hr.tg;have qM:=hr.se;obtain⟨k,ag,sh,sq,ep,ds,se,fr,tg⟩:=e;replace HW:Hid (abq↔(((0<=fr∧fr<8)∧0<=tg)∧(En.abq ⟨k,ag,sh,sq,ep,ds,se,fr,tg⟩∨En.R ⟨k,ag,sh,sq,ep,ds,se,fr,tg⟩))):=Q (by rw[HW];unfold En.Ok;dsimp only at jN ⊢;exact⟨λh=>⟨⟨h.1.1,h.1.2.1⟩,h.2⟩,λh=>⟨⟨h.1.1,h.1.2,jN⟩,h.2⟩⟩)
 replace hr:=Q hr;unfold En.agg at hK Yy ⊢;dsimp only at jN qM hK Yy ⊢;obtain⟨n,HN⟩:=az (ds.length);rw[<-HN.out] at hK Yy ⊢;have hS:=St.begin_ (l:=[]) (w:=w) (V:=λ_=>False) trivial (λ_ h=>h.elim) trivial;obtain⟨x,wa,HX,HA,hS⟩:=hS.new' #[J k,J ag,J sh,J sq,J ep,Z A n c,aX se,J fr,J tg] 40;go_in;have E:=hS.facts;simp only[ec] at E;go_wp2_with fail;rw[<-HA.out,<-HX.out];refine (hK wa).mono ?_;rintro e w1 ⟨⟨b,rfl,hb⟩,eD⟩;replace hb:=Q hb;have ej:=hS.grow eD;have E:=ej.facts;simp only[ec] at E;rcases bC b with h|h
 case inr=>
  subst h;go_wp2;go_ret;refine⟨oz.no (λh=>?_) am,ej.grown⟩;have hb:=hb.out;simp only[Bool.false_eq_true,false_iff] at hb;refine hb ?_;unfold En.Kd;rcases (HW.out.1 h).2 with G|G
  ·exact .inl ⟨G.1,G.2.1⟩
  ·exact .inr ⟨G.1,G.2.1,G.2.2.1,G.2.2.2.1,G.2.2.2.2.1,G.2.2.2.2.2.1⟩
 subst h;replace hb:Hid (En.Kd ⟨k,ag,sh,sq,ep,ds,se,fr,tg⟩):=Q (by have:=hb.out;simpa using this);go_wp2_with fail;refine (rY w1 fr 8).mono ?_;rintro e w2 ⟨rfl,rfl⟩;by_cases I:0<=fr∧fr<8;case neg=>
  rw[aD I];go_wp2;go_ret;exact⟨oz.no (λh=>I (HW.out.1 h).1.1) am,ej.grown⟩
 rw[aC I];by_cases G:tg<0
 ·have d2:decide (tg<0)=true:=aC G
  replace G:=Q G;go_wp2;go_ret;exact⟨oz.no (λh=>by have:=(HW.out.1 h).1.2;have:=G.out;omega) am,ej.grown⟩
 have d2:decide (tg<0)=false:=aD G;replace I:=Q I;replace G:=Q G;rcases hb.out with ⟨N,hs⟩|⟨N,k1,k2,k3,k4,k5⟩
 ·dsimp only at N hs
  subst N;have hWc:=Yy w1 ej.grown rfl hs;obtain⟨W2,HW2⟩:=az (En.abq ⟨1,ag,sh,sq,ep,ds,se,fr,tg⟩);rw[<-HW2.out,hs] at hWc;clear Yy;go_wp2_with fail;refine hWc.mono ?_;rintro e w2 ⟨⟨abl,rfl,hE⟩,fk⟩;replace hE:=Q hE;go_wp2;go_ret;rw[HW2.out] at hE;refine⟨⟨abl,rfl,hE.out.trans ⟨λh=>HW.out.2 ⟨⟨I.out,by have:=G.out;omega⟩,.inl h⟩,λh=>?_⟩⟩,ej.grown.trans fk⟩;rcases (HW.out.1 h).2 with L|L
  ·exact L
  ·have:=L.1;cases this
 ·dsimp only at N k1 k2 k3 k4 k5
  have hP:=abn.qL w1 se qM;subst N;clear Yy hK;by_cases hp:abn.fW se=0
  ·rw[hp] at hP
   replace hp:=Q hp;replace k1:=Q k1;replace k2:=Q k2;replace k3:=Q k3;replace k4:=Q k4;replace k5:=Q k5;go_wp2_with fail;refine hP.mono ?_;rintro e w2 ⟨Ap,cp,rfl,_,_,fk⟩;go_wp2;go_ret;exact⟨oz.yes (HW.out.2 ⟨⟨I.out,by have:=G.out;omega⟩,.inr ⟨rfl,k1.out,k2.out,k3.out,k4.out,k5.out,hp.out,jt hp.out⟩⟩),ej.grown.trans fk⟩
  ·have Cz:abn.fW se=12:=by unfold abn.fW at hp ⊢;split;rename_i h;rw[aA h] at hp;exact absurd rfl hp;rfl
   rw[Cz] at hP;replace Cz:=Q Cz;replace hp:=Q hp;replace k1:=Q k1;replace k2:=Q k2;replace k3:=Q k3;replace k4:=Q k4;replace k5:=Q k5;go_wp2_with fail;refine hP.mono ?_;rintro e w2 ⟨Ap,cp,rfl,_,_,fk⟩;go_wp2;go_ret;refine⟨oz.no (λh=>?_) am,ej.grown.trans fk⟩;rcases (HW.out.1 h).2 with L|L
   ·have:=L.1;cases this
   ·exact hp.out L.2.2.2.2.2.2.1
theorem En.Ok.rng{e:En}(h:e.Ok):e.Rt:=by
 obtain⟨⟨_,_,I⟩,G⟩:=h;rcases G with ⟨_,L,_,_,h4,h5,h6,h7⟩|⟨_,_,_,L,h4,h5,_,h6⟩
 ·exact⟨h4.2,h5.2,I,λd hd=>⟨(h7 d hd).2.1,bB (h7 d hd).2.2.2 am⟩,by rw[L];decide,bB h6.2 am⟩
 ·exact⟨(by rw[L];decide),(by rw[h4];decide),I,(by rw[h5];intro d hd;cases hd),bB h6 am,by rw[h5];decide⟩
theorem ju(w:X)(e:En)(V:aV)(A:aU)(c:Nat)(h:e.Ok)(hd:jM w V A e.ds.length e.ds):dz W 125 #[aZ (e.agg A c)] w λen O=>en=b5 (J 0)∧Grow w O:=
 (oy w e V A c h.rng hd).mono λ_ _ ⟨⟨abl,I,G⟩,L⟩=>⟨by rw[I,G.2 h],L⟩
def gZ(d:Dl):Bool:=decide (abn.fW d.1=0)&&decide (0<d.2)
def vA(s:aR):List Dl->Nat->Option Nat
 | [],a=>some a
 | d::l,a=>if d.1=s then (if 18446744073709551615-d.2<a then none else vA s l (a+d.2)) else vA s l a
theorem Ay(s:aR)(d:Dl)(l:List Dl)(a:Nat):vA s (d::l) a=if d.1=s then (if 18446744073709551615-d.2<a then none else vA s l (a+d.2)) else vA s l a:=rfl
def iV(l:List Dl)(d:Dl):Int:=if gZ d=false then 1 else if 32<=l.length then 24 else if vA d.1 l d.2=none then 25 else 0
theorem DV(w:X)(s:aR)(x:Nat)(hs:s.size<=1000000):dz W 332 #[aZ #[aX s,ae ah x]] w λe O=>e=b5 (aY (gZ (s,x)))∧Grow w O:=by
 have fu:=dT w (.cells #[aX s,ae ah x] 147);have hB:=eJ.made w 147 #[aX s,ae ah x];have hP:=abn.qL (w.alloc (.cells #[aX s,ae ah x] 147)) s hs;obtain⟨R,HR⟩:=az (gZ (s,x));rw[<-HR.out];go_in;go_wp2_with fail;refine hP.mono ?_;rintro e w2 ⟨Ap,cp,rfl,_,_,fk⟩;have c1:=(hB.grow fk).cell 1;by_cases hp:abn.fW s=0
 ·have HR2:Hid (R=decide (0<x)):=Q (by rw[HR.out];simp[gZ,hp])
  rw[hp];go_wp2;go_ret;exact⟨by rw[HR2.out];simp,fu.trans fk⟩
 ·have HR2:Hid (R=false):=Q (by rw[HR.out];simp[gZ,hp])
  have hb:(abn.fW s == 0)=false:=beq_eq_false_iff_ne.2 hp;replace hp:=Q hp;go_wp2;go_ret;exact⟨by rw[HR2.out];rfl,fu.trans fk⟩
theorem NZ(w:X)(st:Nat)(A:aU)(n c:Nat)(l:List Dl)(D:aV)(hd:jM w D A n l)(kY:w.cell? ⟨st,1,none⟩=some (Z A n c))(fS:st<(w:Nat))(hn:n<=1048576)(hl:∀d∈l,d.2<=18446744073709551615)(s:aR)(x:Nat)(hs:s.size<=1000000)(Y:x<=18446744073709551615):dz W 278 #[st,aZ #[aX s,ae ah x]] w λe O=>e=b5 (J (iV l (s,x)))∧Grow w O:=by
 have fu:=dT w (.cells #[aX s,ae ah x] 147);have hB:=eJ.made w 147 #[aX s,ae ah x];have T:=DV (w.alloc (.cells #[aX s,ae ah x] 147)) s x hs;have rA:Hid (l.length=n):=Q hd.len;have a1J:Hid (∀O,Grow w O->O.cell? ⟨st,1,none⟩=some (Z A n c)):=Q λO H=>(H.cell (p:=⟨st,1,none⟩) fS).trans kY;obtain⟨R,HR⟩:=az (iV l (s,x));rw[<-HR.out];clear kY;go_in;go_wp2_with fail;refine T.mono ?_;rintro e w2 ⟨rfl,fk⟩;have c0:=(hB.grow fk).cell 0;have c1:=(hB.grow fk).cell 1;have b1:=a1J.out w2 (fu.trans fk);rcases bC (gZ (s,x)) with hr|hr
 case inr=>
  have HR2:Hid (R=1):=Q (by rw[HR.out];unfold iV;rw[aA hr]);go_wp2;go_ret;exact⟨by rw[HR2.out];rfl,fu.trans fk⟩
 case inl=>
 have Vj:¬ gZ (s,x)=false:=by rw[hr];simp
 by_cases h32:32<=n
 ·have HR2:Hid (R=24):=Q (by rw[HR.out];unfold iV;rw[aB Vj,aA (by rw[rA.out];exact h32)])
  have d32:decide ((32:Int)<=(n:Int))=true:=aC ap;go_wp2;go_ret;exact⟨by rw[HR2.out];rfl,fu.trans fk⟩
 have HR2:Hid (R=if vA s l x=none then 25 else 0):=Q (by rw[HR.out];unfold iV;rw[aB Vj,aB (by rw[rA.out];exact h32)]);have d32:decide ((32:Int)<=(n:Int))=false:=aD ap;go_wp2_with fail;clear c1 b1 d32 Vj hr;go_loopw [5,24] (λa i wr=>∃(k a':Nat),a=ae ah a'∧i=J k∧k<=n∧a'<=18446744073709551615∧vA s (l.drop k) a'=vA s l x∧Grow w2 wr) (λ_ i _=>n-(intOf i).toNat);case atStart=>exact⟨0,x,rfl,rfl,by omega,Y,rfl,Grow.refl _⟩
 case round=>
  obtain⟨k,a',rfl,rfl,oL,TS,hm,gP⟩:=hrel;have c0:=(hB.grow (fk.trans gP)).cell 0;by_cases N:k<n
  ·obtain⟨ad,hq,rfl,f0,f1⟩:=kn (In.grow hd ((fu.trans fk).trans gP)) N
   have e0:=f0 wr (Grow.refl _);have e1:=f1 wr (Grow.refl _);have m9:=hl l[k] (bF hq);rw[bP hq,Ay] at hm;generalize l[k]=y at e0 e1 m9 hm;obtain⟨s',x'⟩:=y;dsimp only at e0 e1 m9;dsimp only at hm;have RY:=dT wr (.cells #[aX s',ae ah x'] 147);have lS:=eJ.made wr 147 #[aX s',ae ah x'];have c02:=((hB.grow (fk.trans gP)).grow RY).cell 0;have c20:=lS.cell 0;have c21:=lS.cell 1;have wr1:IntKind.u64.wrap ((18446744073709551615:Int)-(x':Int))=((18446744073709551615-x':Nat):Int):=by rw[wrap_u64];omega
   clear f0 f1;by_cases Yd:s'=s
   ·subst Yd
    rw[aA rfl] at hm;by_cases ho:18446744073709551615-x'<a'
    ·rw[aA ho] at hm
     have HR3:Hid (R=25):=Q (by rw[HR2.out,<-hm,aA rfl]);replace hm:=Q hm;go_wp2;go_ret;exact⟨by rw[HR3.out];rfl,(fu.trans fk).trans (gP.trans RY)⟩
    ·rw[aB ho] at hm
     have wr2:IntKind.u64.wrap ((a':Int)+(x':Int))=((a'+x':Nat):Int):=by rw[wrap_u64];omega
     replace hm:=Q hm;go_wp2_with fail;exact⟨⟨k+1,a'+x',by go_num,by go_num,by omega,by omega,hm.out,gP.trans RY⟩,by simp[intOf];omega⟩
   ·rw[aB Yd] at hm
    have hb:=abn.sZ Yd;replace Yd:=Q Yd;replace hm:=Q hm;go_wp2_with fail;exact⟨⟨k+1,a',rfl,by go_num,by omega,by omega,hm.out,gP.trans RY⟩,by simp[intOf];omega⟩
  ·have Vh:k=n:=by omega
   have kS:l.drop k=[]:=cR (by rw[rA.out];omega);rw[kS] at hm;have HR3:Hid (R=0):=Q (by rw[HR2.out,<-hm];rfl);replace hm:=Q hm;replace kS:=Q kS;replace Vh:=Q Vh;go_wp2;go_ret;exact⟨by rw[HR3.out];rfl,(fu.trans fk).trans gP⟩
def tc(F:FuncId)(caps:aP)(p:Dl->Bool)(l:List Dl)(w:X):Prop:=(∀(vs:aP)(w:X),(callFunc F vs).run W w=.ok (.enter F vs) w)∧∀O,Grow w O->∀d∈l,dz W F (#[aZ #[aX d.1,ae ah d.2]]++caps) O λe w''=>e=b5 (aY (p d))∧Grow O w''
theorem tc.grow{F:FuncId}{caps:aP}{p:Dl->Bool}{l:List Dl}{w O:X}(h:tc F caps p l w)(H:Grow w O):tc F caps p l O:=⟨h.1,λw2 G=>h.2 w2 (H.trans G)⟩
def a4j(p:Dl->Bool)(l:List Dl)(e:Ending):Prop:=(e=b5 (J (-1))∧∀d∈l,p d=false)∨∃(k:Nat)(h:k<l.length),e=b5 (J k)∧p l[k]=true∧∀d∈l.take k,p d=false
theorem tf(w:X)(V:aV)(A:aU)(n c:Nat)(l:List Dl)(h:jM w V A n l)(hn:n<=1048576)(F:FuncId)(caps:aP)(p:Dl->Bool)(hF:tc F caps p l w):dz W 302 #[Z A n c,.func (.func F) #[] caps] w λe O=>a4j p l e∧Grow w O:=by
 have hl:l.length=n:=h.len;have QO:=hF.1;go_in;go_wp2_with fail;go_loopw [8] (λi wr=>∃k:Nat,k<=n∧i=J k∧(∀d∈l.take k,p d=false)∧Grow w wr) (λi _=>n-(intOf i).toNat);case atStart=>exact⟨0,by omega,rfl,by simp,Grow.refl _⟩
 case round=>
  obtain⟨k,oL,rfl,fS,gP⟩:=hrel;replace fS:=Q fS;by_cases N:k<n
  ·obtain⟨ad,hq,rfl,f0,f1⟩:=kn (In.grow h gP) N
   have e0:=f0 wr (Grow.refl _);have e1:=f1 wr (Grow.refl _);have E:=hF.2 wr gP l[k] (bF hq);have j9:Hid (l.take (k+1)=l.take k++[l[k]]):=Q (br hq);have hat:Hid (l[k]?=some l[k]):=Q (List.getElem?_eq_getElem hq);generalize l[k]=y at e0 e1 E j9 hat
   obtain⟨s,x⟩:=y;dsimp only at e0 e1 E;clear f0 f1;go_wp2_with fail;refine E.mono ?_;rintro e w2 ⟨rfl,fk⟩;rcases bC (p (s,x)) with hb|hb
   ·go_wp2_with fail
    go_ret;exact⟨.inr ⟨k,hq,rfl,by rw[(List.getElem?_eq_some_iff.1 hat.out).2];exact hb,fS.out⟩,gP.trans fk⟩
   ·go_wp2_with fail
    exact⟨⟨k+1,by omega,by go_num,λd hd=>by
     rw[j9.out] at hd;rcases List.mem_append.1 hd with hd|hd
     ·exact fS.out d hd
     ·rw[List.mem_singleton.1 hd];exact hb,gP.trans fk⟩,by simp[intOf];omega⟩
  ·have a6e:Hid (k=n):=Q ap
   go_wp2;go_ret;exact⟨.inl ⟨rfl,λd hd=>fS.out d (by rw[a6e.out,<-hl,dq];exact hd)⟩,gP⟩
theorem Jb(w:X)(V:aV)(A:aU)(n c:Nat)(l:List Dl)(h:jM w V A n l)(hn:n<=1048576)(F:FuncId)(caps:aP)(p:Dl->Bool)(hF:tc F caps p l w):dz W 243 #[Z A n c,.func (.func F) #[] caps] w λe O=>e=b5 (aY (l.any p))∧Grow w O:=by
 have hI:=tf w V A n c l h hn F caps p hF;go_in;go_wp2_with fail;refine hI.mono ?_;rintro e w2 ⟨hI|⟨k,N,rfl,I,G⟩,fk⟩
 ·obtain⟨rfl,G⟩:=hI
  replace G:=Q G;go_wp2;go_ret;refine⟨?_,fk⟩;rw[show l.any p=false from List.any_eq_false.2 λd hd=>by rw[G.out d hd];simp];rfl
 ·have dk:decide ((0:Int)<=(k:Int))=true:=aC ap
  replace G:=Q G;replace I:=Q I;go_wp2;go_ret;refine⟨?_,fk⟩;rw[show l.any p=true from List.any_eq_true.2 ⟨_,bF N,I.out⟩];rfl
theorem RZ(w:X)(s s':aR)(n x y:Nat)(hy:eJ w y 147 #[aX s',ae ah x]):dz W 371 #[aZ #[aX s,ae ah n],y] w λe O=>e=b5 (aY (decide (s=s')))∧Grow w O:=by
 have fu:=dT w (.cells #[aX s,ae ah n] 147);have c0:=(hy.grow fu).cell 0;by_cases h:s=s'
 ·subst h
  go_in;go_wp2;go_ret;exact⟨by simp,fu⟩
 ·have hb:=abn.sZ h
  have hd:Hid (decide (s=s')=false):=Q (aD h);replace h:=Q h;go_in;go_wp2;go_ret;exact⟨by rw[hd.out];rfl,fu⟩
def Mn(ds:List Dl)(d:Dl):Bool:=ds.any λx=>decide (x.1=d.1)
theorem R_(w:X)(s:aR)(n y m c:Nat)(sq:Int)(A:aU)(D:aV)(ds:List Dl)(hd:jM w D A m ds)(hm:m<=1048576)(hy:eJ w y 196 #[J sq,Z A m c]):dz W 370 #[aZ #[aX s,ae ah n],y] w λe O=>e=b5 (aY (Mn ds (s,n)))∧Grow w O:=by have fu:=dT w (.cells #[aX s,ae ah n] 147);have hB:=eJ.made w 147 #[aX s,ae ah n];have c1:=(hy.grow fu).cell 1;have hC:=Jb (w.alloc (.cells #[aX s,ae ah n] 147)) D A m c ds (In.grow hd fu) hm 371 #[.pointer (some ⟨(w:Nat),0,none⟩)] (λx=>decide (x.1=s)) ⟨λvs w=>by kernel_rfl,λO H d _=>RZ O d.1 s d.2 n _ (hB.grow H)⟩;go_in;go_wp2_with fail;refine hC.mono ?_;rintro e w2 ⟨rfl,fk⟩;go_wp2;go_ret;exact⟨rfl,fu.trans fk⟩
theorem Az(cs:aP)(b:Nat)(vs:List K)(h:b+vs.length<=cs.size):(cs.toList.take b++vs++cs.toList.drop (b+vs.length)).toArray.size=cs.size:=by simp only[cy,bd,bn,bO,bZ];omega
theorem KQ(cs:aP)(b:Nat)(vs:List K)(h:b+vs.length<=cs.size):(cs.toList.take b++vs++cs.toList.drop (b+vs.length)).toArray.toList.take (b+vs.length)=cs.toList.take b++vs:=by rw[show ∀l:List K,l.toArray.toList=l from λ_=>rfl,List.take_left' (by simp only[bd,bn,bZ];omega)]
theorem KR(cs:aP)(b:Nat)(vs:List K)(h:b+vs.length<=cs.size)(q:Nat)(hq:b+vs.length<=q):(cs.toList.take b++vs++cs.toList.drop (b+vs.length)).toArray[q]?=cs[q]?:=by
 have I:(cs.toList.take b++vs).length=b+vs.length:=by simp only[bd,bn,bZ];omega
 rw[List.getElem?_toArray,List.getElem?_append_right ap,I,List.getElem?_drop,Array.getElem?_toList];congr 1;omega
theorem filter_none{p:Dl->Bool}{l:List Dl}(h:∀d∈l,p d=false):l.filter (λd => !p d)=l:=List.filter_eq_self.2 λd hd=>by rw[h d hd];rfl
theorem vg{p:Dl->Bool}{l:List Dl}{k:Nat}(N:k<l.length):(l.take (k+1)).filter (λd => !p d)=if p l[k]=true then (l.take k).filter (λd => !p d) else (l.take k).filter (λd => !p d)++[l[k]]:=by
 rw[br N,List.filter_append];split;·rename_i h;simp[h]
 ·rename_i h
  have:p l[k]=false:=by simpa using h
  simp[this]
theorem Wg(w:X)(l:List Dl)(V:aV)(sl:K)(n:Nat)(T:Row w V 147 2 sl n (fm l))(hn:n<=1048576)(F:FuncId)(y:Nat)(p:Dl->Bool)(hF:tc F #[y] p l w)(hFV:∀O,dM V w O->tc F #[y] p l O):dz W 369 #[sl,.func (.func F) #[] #[y]] w λe O=>∃sl',e=b5 sl'∧Row O V 147 2 sl' (l.filter λd => !p d).length (fm (l.filter λd => !p d))∧dM V w O:=by
 have QO:=hF.1;obtain⟨hl,h0|⟨g,cap,cur,rfl,hV,H,kM,iO,jQ,j9⟩⟩:=id T
 ·obtain⟨rfl,rfl⟩:=h0
  obtain rfl:l=[]:=bu (by have:=ka l;omega);have hI:=tf w V none 0 0 [] In.nil (bo _) F #[y] p hF;go_in;go_wp2_with fail;refine hI.mono ?_;rintro e w2 ⟨⟨rfl,_⟩|⟨k,N,_⟩,fk⟩
  ·go_wp2_with fail
   go_ret;exact⟨_,rfl,Row.nil,dM.dK fk⟩
  ·exact absurd N (by simp)
 obtain⟨A2,c2,e2,Ye,_,_⟩:=T.jL;injection e2 with e2 _ e3;subst e2 e3;have rA:l.length=n:=by have:=ka l;omega
 have hI:=tf w V _ n cap l Ye hn F #[y] p hF;go_in;go_wp2_with fail;refine hI.mono ?_;rintro e w1 ⟨⟨rfl,kh⟩|⟨k0,ja,rfl,sx,kh⟩,eD⟩
 ·replace kh:=Q kh
  go_wp2;go_ret;refine⟨_,rfl,?_,dM.dK eD⟩;rw[filter_none kh.out,rA];exact T.grow eD
 have ky:eJ w1 g 147 cur:=(eD.block g (Array.getElem?_eq_some_iff.1 H).1).trans H;have hf0:Hid ((l.take (k0+1)).filter (λd => !p d)=l.take k0):=Q (by rw[vg ja,aA sx,filter_none kh]);replace kh:=Q kh;replace sx:=Q sx;have hne1:((k0:Int) == -1)=false:=beq_eq_false_iff_ne.2 ap;replace T:=Q T;replace j9:=Q j9;replace jQ:=Q jQ;go_wp2_with fail;go_loopw [5,6] (λi j wr=>∃(i' j':Nat)(cur':aP),i=J i'∧j=J j'∧j'<=n∧i'<j'∧i'=((l.take j').filter λd => !p d).length∧eJ wr g 147 cur'∧cur'.size=cap*2∧cur'.toList.take (i'*2)=fm ((l.take j').filter λd => !p d)∧(∀q,j'*2<=q->q<n*2->cur'[q]?=(fm l)[q]?)∧dM V w wr) (λ_ j _=>n-(intOf j).toNat);case atStart=>
  refine⟨k0,k0+1,cur,rfl,by go_num,by omega,by omega,by rw[hf0.out,bn];omega,ky,jQ.out,?_,λq _ hq=>?_,dM.dK eD⟩;·rw[hf0.out,fm,<-ki mN 2 iH,<-fm,<-j9.out,List.take_take,cz ap]
  ·rw[<-j9.out,List.getElem?_take,aA hq,Array.getElem?_toList]
 case round=>
  obtain⟨i,j,cu,rfl,rfl,Cw,wJ,vP,hB,iZ,zl,rJ,hj⟩:=hrel;replace vP:=Q vP;replace zl:=Q zl;replace rJ:=Q rJ;replace iZ:=Q iZ;have TP:=iZ.out;by_cases Ix:j<n
  ·have hjL:j<l.length:=by omega
   have c0:wr.cell? ⟨g,j*2,none⟩=some (aX l[j].1):=by rw[hB.cell,rJ.out (j*2) (bh _) ap];exact (flat_get mN 2 iH l j 0 hjL ap).trans rfl
   have c1:wr.cell? ⟨g,j*2+1,none⟩=some (ae ah (l[j].2:Int)):=by rw[hB.cell,rJ.out (j*2+1) ap ap];exact (flat_get mN 2 iH l j 1 hjL ap).trans rfl
   have hfn:Hid ((l.take (j+1)).filter (λd => !p d)=if p l[j]=true then (l.take j).filter (λd => !p d) else (l.take j).filter (λd => !p d)++[l[j]]):=Q (vg hjL);obtain⟨z,wa,HZ,HA⟩:∃z wa,Hid (z=(wr:Nat))∧Hid (wa=wr.alloc (.cells #[aX l[j].1,ae ah (l[j].2:Int)] 147)):=⟨_,_,Q rfl,Q rfl⟩;have fu:Grow wr wa:=by rw[HA.out];exact dT _ _
   have Yz:eJ wa z 147 #[aX l[j].1,ae ah (l[j].2:Int)]:=by rw[HA.out,HZ.out];exact eJ.made wr _ _
   have za:=(hFV wa (hj.trans (dM.dK fu))).2 wa (Grow.refl _) l[j] (bF hjL);have hBa:=hB.grow fu;generalize l[j]=d at c0 c1 Yz HA za hfn;obtain⟨s,x⟩:=d;dsimp only at c0 c1 Yz HA za;have z0:=Yz.cell 0;have z1:=Yz.cell 1;have hjz:dM V w wa:=hj.trans (dM.dK fu);go_wp2_with fail;rw[<-HA.out,<-HZ.out];go_wp2_with fail;refine za.mono ?_;rintro e w2 ⟨rfl,fk⟩;have z0:=(Yz.grow fk).cell 0;have z1:=(Yz.grow fk).cell 1;have lS:=hBa.grow fk;rcases bC (p (s,x)) with hb|hb
   ·replace hfn:=hfn.out
    rw[aA hb] at hfn;replace hfn:=Q hfn;go_wp2_with fail;exact⟨⟨i,j+1,cu,rfl,by go_num,by omega,by omega,by rw[hfn.out];exact vP.out,lS,iZ.out,by rw[hfn.out];exact zl.out,λq I G=>rJ.out q ap G,hjz.trans (dM.dK fk)⟩,by simp[intOf];omega⟩
   ·replace hfn:=hfn.out
    rw[aB (by rw[hb];simp)] at hfn;replace hfn:=Q hfn;go_wp2_with (refine pX rfl 147 (.tmp 33) (.tmp 32) rfl g (i*2) rfl [aX s,ae ah x] rfl lS (by simp;omega) rfl aw rfl ?_;intro w3 F9 mz _;refine stay ?_);refine dI ?_;have mn:i*2+[Value.string s,ae ah x].length<=cu.size:=by simp;omega
    have p1:=Q (Az cu (i*2) _ mn);have p2:=Q (KQ cu (i*2) _ mn);have p3:=Q (KR cu (i*2) _ mn);have hjw:dM V w w3:=(hjz.trans (dM.dK fk)).trans (mz.imp λb hb=>hb▸hV);generalize (cu.toList.take (i*2)++[Value.string s,ae ah x]++cu.toList.drop (i*2+[Value.string s,ae ah x].length)).toArray=cu' at F9 p1 p2 p3;go_wp2_with fail;exact⟨⟨i+1,j+1,cu',by go_num,by go_num,by omega,by omega,by rw[hfn.out,bd,<-vP.out];rfl,F9,p1.out.trans iZ.out,by rw[hfn.out,show (i+1)*2=i*2+[Value.string s,ae ah x].length by simp;omega,p2.out,zl.out];simp[fm,mN],λq I G=>(p3.out q (by simp;omega)).trans (rJ.out q ap G),hjw⟩,by simp[intOf];omega⟩
  ·have Gu:j=n:=by omega
   replace Gu:=Q Gu;have kT:i<cap:=by omega
   have za:∀ty,(Builtin.clear_ #[38] ty #[Z (some ⟨g,i*2,none⟩) (n-i) (cap-i)]).run W wr=.ok (a_ #[]) (wr.setCells g (i*2) (bM (aZ #[.string .empty,ae ah 0]:K).cells (n-i)).toList):=λty=>by refine j_ oQ (sG oQ) (by simp[Value.cells,Value.oneCell']) wr ty g (i*2) (n-i) (cap-i) ap (λq hq=>?_) (λq hq=>hB.frozen _);rw[hB.cell,Array.getElem?_eq_getElem ap];rfl
   go_wp2;go_ret;have Qr:(l.filter λd => !p d)=(l.take j).filter λd => !p d:=by rw[Gu.out,<-rA,dq]
   have hZl:(bM #[Value.string ByteArray.empty,Value.int IntKind.u64 0] (n-i)).toList.length=(n-i)*2:=by simp[bM]
   generalize (bM #[Value.string ByteArray.empty,Value.int IntKind.u64 0] (n-i)).toList=abe at hZl ⊢;have mn:i*2+abe.length<=cu.size:=by omega
   refine⟨_,rfl,⟨ka _,.inr ⟨g,cap,_,by rw[Qr,<-vP.out];rfl,hV,hB.part (i*2) abe mn,by rw[Qr,<-vP.out];omega,iO,(Az cu _ _ mn).trans iZ.out,?_⟩⟩,hj.trans ((uo g (i*2) abe wr).imp λb hb=>hb▸hV)⟩;rw[Qr,<-vP.out,show ∀l:List K,l.toArray.toList=l from λ_=>rfl,bp,List.take_append_of_le_length (by simp;omega),List.take_take,Nat.min_self,zl.out]
open V
def pg(e:En):List UInt8:=if e.k=2 then [UInt8.ofNat 2]++enc e.fr.toNat++enc e.tg.toNat++enc e.se.size++e.se.data.toList
 else [UInt8.ofNat 1]++enc e.fr.toNat++enc e.tg.toNat++([e.ag.toNat,e.sh.toNat,e.sq.toNat,e.ep.toNat,e.ds.length].flatMap enc)++o7 e.ds
theorem qb:∀(l:aQ),(∀n∈l,n<18446744073709551616)->(l.flatMap enc).length<=l.length*10
 | [],_=>by simp
 | n::l,h=>by
   have I:=qb l λx Y=>h x (by simp[Y]);have G:=eE (h n (by simp));rw[bJ,bd,bD];omega
theorem Jc{e:En}(h:e.abq):∀d∈e.ds,Small d:=λd hd=>by obtain⟨I,G,L,h4⟩:=h.2.2.2.2.2.2.2 d hd;exact⟨h4,by omega⟩
theorem S1(w:X)(e:En)(V:aV)(A:aU)(c:Nat)(gC:e.Ok)(hr:e.R)(hd:jM w V A e.ds.length e.ds):dz W 239 #[aZ (e.agg A c)] w λen O=>∃v,en=b5 (a_ #[v,()])∧Grow w O∧eM (pg e) v O:=by
 obtain⟨⟨qX,KS⟩,_⟩:=id gC;obtain⟨k,ag,sh,sq,ep,ds,se,fr,tg⟩:=e;obtain⟨I,G,L,h4,h5,h6,h7,iZ⟩:=hr;simp only at I G L h4 h5 h6 iZ qX KS;subst I G L h4 h5 h6;obtain⟨F,rfl⟩:=cU qX.1;obtain⟨abf,rfl⟩:=cU KS.1;unfold En.agg;dsimp only[cx] at hd ⊢;have gl:=dT w (.cells #[J 2,(),(),(),(),Z A 0 c,aX se,J F,J abf] 40);have hB:=eJ.made w 40 #[J 2,(),(),(),(),Z A 0 c,aX se,J F,J abf];obtain⟨x,HX⟩:=az ((w:Nat):Nat);obtain⟨wa,HA⟩:=az (w.alloc (.cells #[J 2,(),(),(),(),Z A 0 c,aX se,J F,J abf] 40):X);rw[<-HA.out] at hB gl;rw[<-HX.out] at hB;have Y:x<(wa:Nat):=hB.lt;have T:=ju wa _ V A c gC (In.grow hd gl);unfold En.agg at T;dsimp only at T;have c0:=λ(w1:X)(H:Grow wa w1)=>(hB.grow H).cell 0;go_in;go_wp2_with fail;rw[<-HA.out,<-HX.out];refine T.mono ?_;rintro e w2 ⟨rfl,fk⟩;have i4:=hB.grow fk;have vR:=gl.trans fk;have wF:IntKind.u64.wrap (F:Int)=(F:Int):=by rw[wrap_u64];omega
 have wG:IntKind.u64.wrap (abf:Int)=(abf:Int):=by rw[wrap_u64];omega
 clear T c0;go_wp2_with fail;have gd:Grow w2 w2.drew:=(Grow.refl _).drew;refine dJ rfl ?_;refine gi (Grow w2) 13 rfl ?_;refine held 0 rfl gd (λw1 E R T=>by have c0:=(i4.grow E).cell 0;have c7:=(i4.grow E).cell 7;have c8:=(i4.grow E).cell 8;go_simp;exact T) ?_;refine held 1 rfl gd (λw1 E R T=>by have c0:=(i4.grow E).cell 0;have c7:=(i4.grow E).cell 7;have c8:=(i4.grow E).cell 8;go_simp;exact T) ?_;refine held 2 rfl gd (λw1 E R T=>by have c0:=(i4.grow E).cell 0;have c7:=(i4.grow E).cell 7;have c8:=(i4.grow E).cell 8;go_simp;exact T) ?_;refine held 4 rfl gd (λw1 E R T=>by have c0:=(i4.grow E).cell 0;have c7:=(i4.grow E).cell 7;have c8:=(i4.grow E).cell 8;go_simp;exact T) ?_;refine held 5 rfl gd (λw1 E R T=>by have c0:=(i4.grow E).cell 0;have c7:=(i4.grow E).cell 7;have c8:=(i4.grow E).cell 8;go_simp;exact T) ?_;refine held 6 rfl gd (λw1 E R T=>by have c0:=(i4.grow E).cell 0;have c7:=(i4.grow E).cell 7;have c8:=(i4.grow E).cell 8;go_simp;exact T) ?_;refine held 8 rfl gd (λw1 E R T=>by have c0:=(i4.grow E).cell 0;have c7:=(i4.grow E).cell 7;have c8:=(i4.grow E).cell 8;go_simp;exact T) ?_;refine held 9 rfl gd (λw1 E R T=>by have c0:=(i4.grow E).cell 0;have c7:=(i4.grow E).cell 7;have c8:=(i4.grow E).cell 8;go_simp;exact T) ?_;refine held 10 rfl gd (λw1 E R T=>by have c0:=(i4.grow E).cell 0;have c7:=(i4.grow E).cell 7;have c8:=(i4.grow E).cell 8;go_simp;exact T) ?_;refine dY 3 rfl ?_;refine fV rfl (R:=λv O=>Grow w2.drew O∧eM [UInt8.ofNat 2] v O) (gv (w:=w2.drew.alloc (.cells #[.int .u8 2] 5)) (by go_simp;rfl) ⟨dT w2.drew _,wP w2.drew #[.int .u8 2] 5 1 [UInt8.ofNat 2] rfl rfl am⟩) ?_;rintro v16 u0 ⟨CB,hb0⟩;replace CB:=gd.trans CB;go_wp2_with fail;refine⟨CB,?_⟩;refine dY 7 rfl ?_;go_wp2_with fail;refine (ic u0 v16 [UInt8.ofNat 2] F hb0 (by simp) ap).mono ?_;rintro en u1 ⟨v20,rfl,eD,lU⟩;replace eD:=CB.trans eD;go_wp2_with fail;refine⟨eD,?_⟩;refine dY 11 rfl ?_;go_wp2_with fail;refine (ic u1 v20 ([UInt8.ofNat 2]++enc F) abf lU (by have:=eE (n:=F) ap;rw[bd];simp only[bv];omega) ap).mono ?_;rintro en w1 ⟨v24,rfl,H,hE⟩;replace H:=eD.trans H;go_wp2_with fail;refine⟨H,?_⟩;refine held 12 rfl H (λw1 E=>aM) ?_;refine eU ?_;have c0:=(i4.grow H).cell 0;have c6:=(i4.grow H).cell 6;have hTx:=t8 w1 v24 _ se hE (by have:=eE (n:=F) ap;have:=eE (n:=abf) ap;simp only[bd,bv];omega) ap;go_wp2_with fail;refine hTx.mono ?_;rintro e w3 ⟨v3,rfl,ib,Jd⟩;go_wp2;go_ret2;refine⟨v3,rfl,vR.trans (H.trans ib),?_⟩;unfold pg;rw[aA rfl];simpa only[cA,bp] using Jd
theorem S2(w:X)(e:En)(V:aV)(A:aU)(c:Nat)(gC:e.Ok)(hr:e.abq)(hd:jM w V A e.ds.length e.ds):dz W 239 #[aZ (e.agg A c)] w λen O=>∃v,en=b5 (a_ #[v,()])∧Grow w O∧eM (pg e) v O:=by
 obtain⟨⟨qX,KS⟩,_⟩:=id gC;have sB:=Jc hr;obtain⟨k,ag,sh,sq,ep,ds,se,fr,tg⟩:=e;obtain⟨I,G,L,h4,h5,h6,h7,_⟩:=hr;simp only at I G L h4 h5 h6 h7 qX KS sB;subst I G;obtain⟨F,rfl⟩:=cU qX.1;obtain⟨abf,rfl⟩:=cU KS.1;obtain⟨AG,rfl⟩:=cU L.1;obtain⟨SH,rfl⟩:=cU h4.1;obtain⟨SQ,rfl⟩:=cU (show 0<=sq by omega);obtain⟨EP,rfl⟩:=cU (show 0<=ep by omega);unfold En.agg;dsimp only at hd ⊢;have gl:=dT w (.cells #[J 1,J AG,J SH,J SQ,J EP,Z A ds.length c,"",J F,J abf] 40);have hB:=eJ.made w 40 #[J 1,J AG,J SH,J SQ,J EP,Z A ds.length c,"",J F,J abf];obtain⟨x,HX⟩:=az ((w:Nat):Nat);obtain⟨wa,HA⟩:=az (w.alloc (.cells #[J 1,J AG,J SH,J SQ,J EP,Z A ds.length c,"",J F,J abf] 40):X);rw[<-HA.out] at hB gl;rw[<-HX.out] at hB;have Y:x<(wa:Nat):=hB.lt;have T:=ju wa _ V A c gC (In.grow hd gl);unfold En.agg at T;dsimp only at T;have c0:=λ(w1:X)(H:Grow wa w1)=>(hB.grow H).cell 0;go_in;go_wp2_with fail;rw[<-HA.out,<-HX.out];refine T.mono ?_;rintro e w2 ⟨rfl,fk⟩;have i4:=hB.grow fk;have vR:=gl.trans fk;have wF:IntKind.u64.wrap (F:Int)=(F:Int):=by rw[wrap_u64];omega
 have wG:IntKind.u64.wrap (abf:Int)=(abf:Int):=by rw[wrap_u64];omega
 clear T c0;go_wp2_with fail;have gd:Grow w2 w2.drew:=(Grow.refl _).drew;refine dJ rfl ?_;refine gi (Grow w2) 13 rfl ?_;refine held 0 rfl gd (λw1 E R T=>by have c0:=(i4.grow E).cell 0;have c7:=(i4.grow E).cell 7;have c8:=(i4.grow E).cell 8;go_simp;exact T) ?_;refine held 1 rfl gd (λw1 E R T=>by have c0:=(i4.grow E).cell 0;have c7:=(i4.grow E).cell 7;have c8:=(i4.grow E).cell 8;go_simp;exact T) ?_;refine held 2 rfl gd (λw1 E R T=>by have c0:=(i4.grow E).cell 0;have c7:=(i4.grow E).cell 7;have c8:=(i4.grow E).cell 8;go_simp;exact T) ?_;refine held 4 rfl gd (λw1 E R T=>by have c0:=(i4.grow E).cell 0;have c7:=(i4.grow E).cell 7;have c8:=(i4.grow E).cell 8;go_simp;exact T) ?_;refine held 5 rfl gd (λw1 E R T=>by have c0:=(i4.grow E).cell 0;have c7:=(i4.grow E).cell 7;have c8:=(i4.grow E).cell 8;go_simp;exact T) ?_;refine held 6 rfl gd (λw1 E R T=>by have c0:=(i4.grow E).cell 0;have c7:=(i4.grow E).cell 7;have c8:=(i4.grow E).cell 8;go_simp;exact T) ?_;refine held 8 rfl gd (λw1 E R T=>by have c0:=(i4.grow E).cell 0;have c7:=(i4.grow E).cell 7;have c8:=(i4.grow E).cell 8;go_simp;exact T) ?_;refine held 9 rfl gd (λw1 E R T=>by have c0:=(i4.grow E).cell 0;have c7:=(i4.grow E).cell 7;have c8:=(i4.grow E).cell 8;go_simp;exact T) ?_;refine held 10 rfl gd (λw1 E R T=>by have c0:=(i4.grow E).cell 0;have c7:=(i4.grow E).cell 7;have c8:=(i4.grow E).cell 8;go_simp;exact T) ?_;refine dY 3 rfl ?_;refine fV rfl (R:=λv O=>Grow w2.drew O∧eM [UInt8.ofNat 1] v O) (gv (w:=w2.drew.alloc (.cells #[.int .u8 1] 5)) (by go_simp;rfl) ⟨dT w2.drew _,wP w2.drew #[.int .u8 1] 5 1 [UInt8.ofNat 1] rfl rfl am⟩) ?_;rintro v16 u0 ⟨CB,hb0⟩;replace CB:=gd.trans CB;go_wp2_with fail;refine⟨CB,?_⟩;refine dY 7 rfl ?_;go_wp2_with fail;refine (ic u0 v16 [UInt8.ofNat 1] F hb0 (by simp) ap).mono ?_;rintro en u1 ⟨v20,rfl,eD,lU⟩;replace eD:=CB.trans eD;go_wp2_with fail;refine⟨eD,?_⟩;refine dY 11 rfl ?_;go_wp2_with fail;refine (ic u1 v20 ([UInt8.ofNat 1]++enc F) abf lU (by have:=eE (n:=F) ap;rw[bd];simp only[bv];omega) ap).mono ?_;rintro en w1 ⟨v24,rfl,H,hE⟩;replace H:=eD.trans H;go_wp2_with fail;refine⟨H,?_⟩;refine held 12 rfl H (λw1 E=>aM) ?_;refine eU ?_;have Gv:=i4.grow H;have c0:=Gv.cell 0;have c1:=Gv.cell 1;have c2:=Gv.cell 2;have c3:=Gv.cell 3;have c4:=Gv.cell 4;have c5:=Gv.cell 5;have wA:IntKind.u64.wrap (AG:Int)=(AG:Int):=by rw[wrap_u64];omega
 have wS:IntKind.u64.wrap (SH:Int)=(SH:Int):=by rw[wrap_u64];omega
 have wQ:IntKind.u64.wrap (SQ:Int)=(SQ:Int):=by rw[wrap_u64];omega
 have wE:IntKind.u64.wrap (EP:Int)=(EP:Int):=by rw[wrap_u64];omega
 have wD:IntKind.u64.wrap (ds.length:Int)=(ds.length:Int):=by rw[wrap_u64];omega
 obtain⟨L0,Ml⟩:=az ([UInt8.ofNat 1]++enc F++enc abf);rw[<-Ml.out] at hE;have QN:L0.length<=21:=by have:=eE (n:=F) ap;have:=eE (n:=abf) ap;rw[Ml.out];simp only[bd,bv];omega
 obtain⟨abp,HN⟩:=az ([AG,SH,SQ,EP,ds.length]:List Nat);have hN5:abp.length=5:=by rw[HN.out];rfl
 have hNs:∀n∈abp,n<18446744073709551616:=by rw[HN.out];intro n hn;simp at hn;omega
 have hgn:=dT w1 (.cells #[ae ah AG,ae ah SH,ae ah SQ,ae ah EP,ae ah ds.length] 42);have hNb:=eJ.made w1 42 #[ae ah AG,ae ah SH,ae ah SQ,ae ah EP,ae ah ds.length];obtain⟨y,HY⟩:=az ((w1:Nat):Nat);obtain⟨wb,HB⟩:=az (w1.alloc (.cells #[ae ah AG,ae ah SH,ae ah SQ,ae ah EP,ae ah ds.length] 42):X);rw[<-HB.out] at hNb hgn;rw[<-HY.out] at hNb;have hEb:=hE.below hgn;have hNc:∀(wr:X),Grow wb wr->∀k,(N:k<abp.length)->wr.cell? ⟨y,k,none⟩=some (ae ah (abp[k]:Int)):=λwr gP k N=>by
  rw[(hNb.grow gP).cell k];subst_eqs;have h5:k<5:=by omega
  have hN:=HN.out;subst hN;match k,h5 with
  | 0,_=>rfl
  | 1,_=>rfl
  | 2,_=>rfl
  | 3,_=>rfl
  | 4,_=>rfl
 have S3:=Gv.grow hgn;have fu:=vR.trans (H.trans hgn);go_wp2_with fail;rw[<-HB.out,<-HY.out];clear c0 c1 c2 c3 c4 c5;go_loopw [5,53] (λv i wr=>∃k:Nat,k<=5∧i=J k∧eM (L0++(abp.take k).flatMap enc) v wr∧Grow wb wr) (λ_ i _=>5-(intOf i).toNat);case atStart=>exact⟨0,by omega,rfl,by simpa using hEb,Grow.refl _⟩
 case round=>
  obtain⟨k,oL,rfl,hI,gP⟩:=hrel;by_cases N:k<5
  ·have cN:=hNc wr gP k ap
   clear hNc;have hkN:k<abp.length:=by omega
   have vq:abp.take (k+1)=abp.take k++[abp[k]]:=br hkN;have fS:=hNs _ (bF hkN);have HS:=Q vq;clear vq;generalize abp[k]=m at cN fS HS;have mn:=qb (abp.take k) λn hn=>hNs n (bW hn);rw[bn] at mn;have hPt:=ic wr u5 _ m hI (by rw[bd];omega) fS;have QL:decide ((k:Int)<5)=true:=aC ap;go_wp2_with fail;refine hPt.mono ?_;rintro e w3 ⟨v3,rfl,ib,Jd⟩;go_wp2_with fail;go_roundw;case rel=>exact⟨k+1,by omega,by go_num,by rw[HS.out,bL,bJ,cE,bm,<-bp];exact Jd,gP.trans ib⟩
   case measure=>simp[intOf];omega
  ·obtain rfl:k=5:=by omega
   have c5:=(S3.grow gP).cell 5;rw[bH ap] at hI;have mn:=qb abp hNs;have hDp:=uE wr u5 _ V A ds.length c ds hI (by rw[bd];omega) (In.grow hd (fu.trans gP)) ap sB;go_wp2_with fail;refine hDp.mono ?_;rintro e w3 ⟨v3,rfl,ib,Jd⟩;go_wp2;go_ret2;refine⟨v3,rfl,fu.trans (gP.trans ib),?_⟩;unfold pg;rw[aB (show ¬ (1:Int)=2 by decide)];dsimp only;rw[cA,cA,cA,cA,cA,cA,<-HN.out,<-Ml.out];exact Jd
theorem DW(w:X)(e:En)(V:aV)(A:aU)(c:Nat)(gC:e.Ok)(hd:jM w V A e.ds.length e.ds):dz W 239 #[aZ (e.agg A c)] w λen O=>∃v,en=b5 (a_ #[v,()])∧Grow w O∧eM (pg e) v O:=
 gC.2.elim (λh=>S2 w e V A c gC h hd) (λh=>S1 w e V A c gC h hd)
def iJ(k:Nat)(ns:aQ):List UInt8:=enc k++ns.flatMap enc
theorem tj:∀(ns:aQ),(∀x∈ns,x<18446744073709551616)->(ns.flatMap enc).length<=ns.length*10
 | [],_=>by simp
 | x::ns,h=>by
   have:=tj ns λy hy=>h y (by simp[hy]);have:=eE (h x (by simp));simp only[bJ,bd,bD];omega
theorem mR(w:X)(k:Nat)(A:aU)(n c:Nat)(ns:aQ)(D:aV)(h:In w D 1 A n (ns.map λ(x:Nat) => J x))(N:k<18446744073709551616)(hn:n<=8)(hs:∀x∈ns,x<=9223372036854775807):dz W 259 #[ae ah k,Z A n c] w λe O=>∃v,e=b5 v∧Grow w O∧eM (iJ k ns) v O:=by
 have rA:ns.length=n:=by have:=h.1;simpa using this
 have hP:=ic w _ [] k (ve w) (by simp) N;go_in;go_wp2_with fail;refine hP.mono ?_;rintro e w1 ⟨v1,rfl,eD,Ma⟩;have a1u:=eE N;go_wp2_with fail;go_loopw [5,12] (λv i wr=>∃j:Nat,j<=n∧i=J j∧eM (iJ k (ns.take j)) v wr∧Grow w wr) (λ_ i _=>n-(intOf i).toNat);case atStart=>exact⟨0,by omega,rfl,by simpa [iJ] using Ma,eD⟩
 case round=>
  obtain⟨j,Cw,rfl,hB,gP⟩:=hrel;by_cases hj:j<n
  ·obtain⟨ad,hA,hD,fS,E⟩:=(h.grow gP).2 ap
   subst hA;have hq:j<ns.length:=by omega
   have e0:=E j (J (ns[j]:Int)) (by simp[hq]);have e1:wr.cell? (ad.add (j*1))=some (J (ns[j]:Int)):=by rw[cM];exact e0
   have vq:ns.take (j+1)=ns.take j++[ns[j]]:=br hq;have HS:=Q vq;have sB:=hs _ (bF hq);have hl:=tj (ns.take j) λx Y=>by have:=hs x (bW Y);omega
   rw[bn,cz ap] at hl;clear vq E;generalize ns[j]=x at e0 e1 sB HS;have Y:IntKind.u64.wrap (x:Int)=(x:Int):=by rw[wrap_u64];omega
   have QN:(iJ k (ns.take j)).length<=1099511627776:=by unfold iJ;rw[bd];omega
   clear hl;have hP:=ic wr u5 _ x hB QN ap;go_wp2_with fail;refine hP.mono ?_;rintro e w2 ⟨v2,rfl,fk,It⟩;have Qy:eM (iJ k (ns.take (j+1))) v2 w2:=by rw[HS.out];unfold iJ at It ⊢;rw[bL,List.flatMap_singleton,<-bp];exact It
   go_wp2_with fail;go_roundw;case rel=>exact⟨j+1,by omega,by go_num,Qy,gP.trans fk⟩
   case measure=>simp[intOf];omega
  ·obtain rfl:j=n:=by omega
   rw[bH ap] at hB;go_wp2;go_ret;exact⟨_,rfl,gP,hB⟩
theorem Gw(w:X)(n:Nat)(hn:n<=9223372036854775807):dz W 200 #[J n] w λe O=>∃v,e=b5 v∧Grow w O∧eM (iJ 1 [n]) v O:=by have fu:=dT w (.cells #[J n] 2);have hB:=eJ.made w 2 #[J n];have T:=mR _ 1 (some ⟨(w:Nat),0,none⟩) 1 1 [n] (λb=>b=(w:Nat)) (hB.jL (size:=1) (n:=1) rfl) am am (by intro x Y;simp only[cI,cF,or_false] at Y;omega);go_in;go_wp2_with fail;refine T.mono ?_;rintro e w1 ⟨v,rfl,H,hI⟩;go_wp2;go_ret;exact⟨v,rfl,fu.trans H,hI⟩
theorem KT(w:X)(k n:Nat)(N:k<=9223372036854775807)(hn:n<=9223372036854775807):dz W 329 #[J k,J n] w λe O=>∃v,e=b5 v∧Grow w O∧eM (iJ 5 [k,n]) v O:=by have fu:=dT w (.cells #[J k,J n] 2);have hB:=eJ.made w 2 #[J k,J n];have T:=mR _ 5 (some ⟨(w:Nat),0,none⟩) 2 2 [k,n] (λb=>b=(w:Nat)) (hB.jL (size:=1) (n:=2) rfl) am am (by intro x Y;simp only[cI,cF,or_false] at Y;omega);go_in;go_wp2_with fail;refine T.mono ?_;rintro e w1 ⟨v,rfl,H,hI⟩;go_wp2;go_ret;exact⟨v,rfl,fu.trans H,hI⟩
end Go.Proofs.YtpeepcmdehhbgaaGreatDoor
end
section
variable{r B abp:Nat}{w O:X}{l:aT}{U:aV}
namespace Go.Proofs.YtpeepcmdehhbgaaGreatDoor
open RowKit Hop V
theorem Wh(w:X)(r B:Nat)(s:aR)(t:aT)(hs:s.size<18446744073709551616)(h:jl r B (enc s.size++s.data.toList++t) w):dz W 138 #[r] w λe O=>e=b5 (aX s)∧jl r B t O∧fI r w O:=by have:=KA w r B s.data.toList t hs h;rwa [Array.toArray_toList] at this
theorem N_(d:Dl)(l:List Dl):o7 (d::l)=dB d++o7 l:=rfl
theorem qN(h:fI r w O):dM (λb=>b=r) w O:=dM.jA h rfl
theorem jl.just(h:jl r B l w)(hj:dM U w O)(hr:¬ U r)(hB:∀b,b<B->¬ U b):jl r B l O:=by obtain⟨I,A,n,c,G,L,h4⟩:=h;have:=G.lt;exact⟨I,A,n,c,hj.blk G hr,Reads.keep L λp hp=>World.cell?_of_block (hj.block p.block ap (hB _ hp)),h4⟩
theorem DX(w:X)(r B:Nat)(ds:List Dl)(t:aT)(h:jl r B (o7 ds++t) w)(hs:∀d∈ds,Small d)(hn:ds.length<=1048576):dz W 195 #[r,J ds.length] w λe O=>∃A c,e=b5 (Z A ds.length c)∧jl r B t O∧jM O (New w O) A ds.length ds∧ds.length<=c∧c<=dG∧fI r w O:=by
 have Y7:=h.lt;have uW:B<=r:=h.1;obtain⟨n,HN⟩:=az (ds.length);have pK:ds.length=n:=HN.out.symm;rw[<-HN.out] at hn ⊢;go_in;go_wp2_with fail;go_loopw [5,8] (λv i wr=>∃k:Nat,k<=n∧i=J k∧ot 147 2 mN (λ_ _ _=>True) (w:Nat) v (ds.take k) wr∧jl r B (o7 (ds.drop k)++t) wr∧fI r w wr) (λ_ i _=>n-(intOf i).toNat);case atStart=>exact⟨0,by omega,rfl,ot.nil (bh _),h,fI.refl r w⟩
 case round=>
  obtain⟨k,oL,rfl,hA,T,ho⟩:=hrel;obtain⟨A1,c1,sA⟩:=hA.slice;rw[bn,cz ap] at sA;subst sA;by_cases N:k<n
  ·have hkd:k<ds.length:=by omega
   have vq:ds.take (k+1)=ds.take k++[ds[k]]:=br hkd;have hdn:ds.drop k=ds[k]::ds.drop (k+1):=bP hkd;have sB:=hs _ (bF hkd);rw[hdn,N_] at T;have HS:=Q vq;clear vq hdn;generalize ds[k]=y at T sB HS;obtain⟨s,x⟩:=y;dsimp only[Small] at sB;have wI:jl r B (enc s.size++s.data.toList++(enc x++(o7 (ds.drop (k+1))++t))) wr:=by simpa only[dB,bp] using T
   have hT:=Wh wr r B s _ ap wI;go_wp2_with fail;refine hT.mono ?_;rintro e w1 ⟨rfl,lT,yQ⟩;have hN:=kj w1 r B x _ sB.2 lT;have Z3:=hA.just oq (qN yQ) (λb hb => .inl ap);go_wp2_with fail;refine hN.mono ?_;rintro e w2 ⟨rfl,gS,pN⟩;have qZ:=Z3.just oq (qN pN) (λb hb => .inl ap);go_wp2_with (at_builtin;refine stay ?_);refine dI ?_;refine u_ (b:=(s,x)) oQ iH (λa u hu=>rQ [a] u (by simpa [fm] using hu)) aj (.tmp 12) (.tmp 17) aj qZ (by rw[bn];omega) aj aj ?_;intro v2 w3 hA3 mz;have oM:fI r w w2:=fI.trans (fI.trans ho yQ) pN;have Mb:=oM.size;have S4:fI r w w3:=⟨mz.os.trans oM.os,mz.tape.trans oM.tape,mz.output.trans oM.output,bB Mb mz.size,λb hb jT=>(mz.block b ap ap).trans (oM.block b hb jT)⟩;have jN:=gS.just mz ap (λb hb=>by omega);go_wp2_with fail;go_roundw;case rel=>exact⟨k+1,by omega,by go_num,by rw[HS.out];exact hA3,jN,S4⟩
   case measure=>simp[intOf];omega
  ·obtain rfl:k=n:=by omega
   have hD:=hA.done ul;rw[bH ap] at hD;rw[cH ap] at T;obtain⟨A3,c3,e3,L,h4,h5,h6⟩:=hD;rw[pK] at e3 L h5;injection e3 with e3 e4 e5;subst e3 e5;go_wp2;go_ret;exact⟨A1,c1,rfl,T,L,h5,h6,ho⟩
theorem jl.put{y:Nat}(h:jl r B l w)(hy:y≠r)(hB:B<=y)(i:Nat)(u:K):jl r B l (w.setCell ⟨y,i,none⟩ u):=h.just (U:=λb=>b=y) (kD w y i u) (λe=>hy e.symm) λb hb e=>by omega
theorem KU(h:fI r w O)(hB:B<=r)(hs:B<=(w:Nat)):Below B w O:=fI.below h hB hs
def S5(e:En)(A:aU)(c:Nat):Array K:=#[J 1,J e.k,J e.ag,J e.sh,J e.sq,J e.ep,Z A e.ds.length c,aX e.se,J e.fr,J e.tg,(),(),ae ah 0,(),(),ay,(),()]
def jc(tag code:Int)(n:Nat):Array K:=#[J 2,(),(),(),(),(),ay,"",(),(),J tag,J code,ae ah n,(),(),ay,(),()]
theorem tn(w:X)(ρ:Operand->K)(o:dE)(ho:o.op=.alloc 45):(execOp ρ o).run W w=.ok (.value (.pointer (some ⟨(w:Nat),0,none⟩))) (w.alloc (.cells aJ 45)):=by obtain⟨dst,op,ty,pos,after,guard⟩:=o;simp only at ho;subst ho;go_simp
theorem km.just{s:RS}(h:km r B abp s w)(hj:dM U w O)(hr:¬ U r)(hB:∀b,b<B->¬ U b):km r B abp s O:=by obtain⟨I,A,n,c,l,b,h0,G,L,h4⟩:=h;have:=G.lt;exact⟨I,A,n,c,l,b,h0,hj.blk G hr,Reads.keep L λp hp=>World.cell?_of_block (hj.block p.block ap (hB _ hp)),h4⟩
theorem km.text{s:RS}(h:km r B abp s w):(⟨(gn s).1.toArray⟩:ByteArray).size<=abp:=by
 obtain⟨_,A,n,c,l,b,h0,_,_,_,hs⟩:=h;show (gn s).1.toArray.size<=abp;rw[cy];unfold gn;split;·exact bo _
 ·rename_i l2
  cases b
  ·have e:l2=l:=Option.some.inj hs
   subst e;cases E:BM l2 with
   | none=>exact bo _
   | some p=>
     have:=(ux (show BM l2=some (p.1,p.2) from E)).2;have L:=congrArg List.length this;simp only[bd] at L;dsimp only;omega
  ·cases hs
def mg:Nat->RS->List Dl×RS
 | 0,s=>([],s)
 | n+1,s=>((⟨(gn s).1.toArray⟩,(kO (gn s).2).1)::(mg n (kO (gn s).2).2).1,(mg n (kO (gn s).2).2).2)
theorem AA:∀(n:Nat)(s:RS),(mg n s).1.length=n
 | 0,_=>rfl
 | n+1,s=>by
   show _+1=_;rw[AA n]
def DSm(abp:Nat)(ds:List Dl):Prop:=∀d∈ds,d.1.size<=abp∧d.2<=18446744073709551615
theorem Wi(w:X)(r B abp n:Nat)(s:RS)(h:km r B abp s w)(hn:n<=1048576):dz W 195 #[r,J n] w λe O=>∃z:Option dA×Nat×List Dl,e=b5 (Z z.1 n z.2.1)∧(z.2.2=(mg n s).1∧DSm abp z.2.2)∧km r B abp (mg n s).2 O∧jM O (New w O) z.1 n z.2.2∧n<=z.2.1∧z.2.1<=dG∧fI r w O:=by
 obtain⟨⟨DS,S'⟩,hq⟩:∃q,Hid (q=mg n s):=⟨_,Q rfl⟩;rw[<-hq.out];dsimp only;have Y7:=h.lt;have uW:B<=r:=h.1;go_in;go_wp2_with fail;go_loopw [5,8] (λv i wr=>∃(k:Nat)(ds:List Dl)(s1:RS),k<=n∧i=J k∧ds.length=k∧(DSm abp ds∧Hid ((DS,S')=(ds++(mg (n-k) s1).1,(mg (n-k) s1).2)))∧ot 147 2 mN (λ_ _ _=>True) (w:Nat) v ds wr∧km r B abp s1 wr∧fI r w wr) (λ_ i _=>n-(intOf i).toNat);case atStart=>exact⟨0,[],s,by omega,rfl,rfl,⟨λd hd=>absurd hd (by simp),Q hq.out⟩,ot.nil (bh _),h,fI.refl r w⟩
 case round=>
  obtain⟨k,ds,s1,oL,rfl,pK,⟨tS,H⟩,hA,T,ho⟩:=hrel;obtain⟨A1,c1,sA⟩:=hA.slice;rw[pK] at sA;subst sA;replace pK:=Q pK;replace tS:=Q tS;by_cases N:k<n
  ·have hT:=IZ wr r B abp s1 T
   have iZ:=Q T.text;go_wp2_with fail;refine hT.mono ?_;rintro e w1 ⟨rfl,lT,yQ⟩;have hN:=uz w1 r B abp _ lT;have Z3:=hA.just oq (qN yQ) (λb hb => .inl ap);go_wp2_with fail;refine hN.mono ?_;rintro e w2 ⟨rfl,gS,pN⟩;have qZ:=Z3.just oq (qN pN) (λb hb => .inl ap);go_wp2_with (at_builtin;refine stay ?_);refine dI ?_;refine u_ (b:=(⟨(gn s1).1.toArray⟩,(kO (gn s1).2).1)) oQ iH (λa u hu=>rQ [a] u (by simpa [fm] using hu)) aj (.tmp 12) (.tmp 17) aj qZ (by rw[pK.out];omega) aj aj ?_;intro v2 w3 hA3 mz;have oM:fI r w w2:=fI.trans (fI.trans ho yQ) pN;have Mb:=oM.size;have S4:fI r w w3:=⟨mz.os.trans oM.os,mz.tape.trans oM.tape,mz.output.trans oM.output,bB Mb mz.size,λb hb jT=>(mz.block b ap ap).trans (oM.block b hb jT)⟩;have jN:=gS.just mz ap (λb hb=>by omega);go_wp2_with fail;exact⟨⟨k+1,ds++[(⟨(gn s1).1.toArray⟩,(kO (gn s1).2).1)],(kO (gn s1).2).2,by omega,by go_num,by rw[bd,pK.out];rfl,⟨λd hd=>by
    rcases List.mem_append.1 hd with hd|hd
    ·exact tS.out d hd
    ·rw[List.mem_singleton.1 hd];exact⟨iZ.out,xD _⟩,Q (by rw[H.out,show n-k=(n-(k+1))+1 by omega];show (ds++_::_,_)=_;rw[bp];rfl)⟩,hA3,jN,S4⟩,by simp[intOf];omega⟩
  ·obtain rfl:k=n:=by omega
   have hD:=hA.done ul;obtain⟨A3,c3,e3,L,h4,h5,h6⟩:=hD;rw[pK.out] at e3 L h5;injection e3 with e3 e4 e5;subst e3 e5;go_wp2;go_ret;have e:=H.out;rw[Nat.sub_self] at e;obtain⟨e1,e2⟩:=Prod.mk.inj e;rw[show (mg 0 s1).1=[] from rfl,bm] at e1;subst e1;rw[show S'=s1 from e2];first|exact⟨(A1,c1,DS),rfl,⟨rfl,tS.out⟩,T,L,h5,h6,ho⟩|exact⟨A1,c1,rfl,DS,⟨rfl,tS.out⟩,T,L,h5,h6,ho⟩
theorem BV(w:X)(r B abp:Nat)(s:RS)(h:km r B abp s w):dz W 138 #[r] w λe O=>∃(x:aT)(s':RS),Hid (gn s=(x,s'))∧x.length<=abp∧e=b5 (aX ⟨x.toArray⟩)∧km r B abp s' O∧fI r w O:=(IZ w r B abp s h).mono λe O ⟨I,G,L⟩=>⟨_,_,Q rfl,by have:=h.text;rw[<-cy];exact this,I,G,L⟩
def ZK(e:En):List UInt8:=[UInt8.ofNat 1]++enc (pg e).length++pg e
def Wj(tag code:Int)(n:Nat):List UInt8:=[UInt8.ofNat 2]++enc tag.toNat++enc code.toNat++enc n
theorem vZ{e:En}(h:e.Ok):(pg e).length<=9000:=by
 obtain⟨⟨I,G⟩,L⟩:=h;have e1:=eE (n:=e.fr.toNat) ap;have e2:=eE (n:=e.tg.toNat) ap;unfold pg;rcases L with L|L
 ·rw[aB (by rw[L.1];decide)]
  have e3:=BU e.ds (Jc L);obtain⟨_,_,ha,hs,hq,he,hn,_⟩:=L;have e4:=qb [e.ag.toNat,e.sh.toNat,e.sq.toNat,e.ep.toNat,e.ds.length] (by intro n hn;simp at hn;omega);simp only[bd,bv];simp only[bD,cx] at e4;omega
 ·rw[aA L.1]
  obtain⟨_,_,_,_,_,_,_,iZ⟩:=L;have e3:=eE (n:=e.se.size) ap;have e4:e.se.data.toList.length=e.se.size:=rfl;simp only[bd,bv];omega
theorem pD(w:X)(e:dC)(s:aR):Grow w (Lib.bytesWorld w e s):=⟨rfl,rfl,rfl,by rw[Lib.bytesWorld_size];omega,λi hi=>Lib.bytesWorld_at_old w e s i hi⟩
theorem rG(w:X)(e:dC)(s:aR)(hs:s.size<=1099511627776):eM s.data.toList (Z (some ⟨(w:Nat),0,none⟩) s.size (grownCap w s.size 0 e)) (Lib.bytesWorld w e s):=by
 refine⟨_,_,_,rfl,⟨by simp[kz],λ_=>⟨_,rfl,by rw[Lib.bytesWorld_size];simp,λj u hu=>?_⟩⟩,grownCap_ge w s.size 0 e,grownCap_le_maxLen w s.size 0 e (by unfold dG;omega)⟩;obtain⟨hj,rfl⟩:=Bm hu;have qC:(⟨(w:Nat),0,none⟩:dA).add j=⟨(w:Nat),j,none⟩:=by unfold Addr.add;split<;>simp_all
 rw[qC,Lib.bytesWorld_cell w e s j hj];have lR:j<s.data.size:=by simpa using hj
 simp[List.getD,Array.getElem?_eq_getElem lR]
end Go.Proofs.YtpeepcmdehhbgaaGreatDoor
namespace Go.Proofs.YtpeepcmdehhbgaaGreatDoor
open RowKit Hop
def ZL(t:Int)(p:Bool)(a had:Int)(best:K)(n:Int):Array K:=#[J t,J 1,aY p,aY false,aY false,aY false,aY false,aY false,aY false,aY false,J a,(),(),(),(),(),(),(),J had,best,J n]
def O0(v:Nat)(t:Int)(p:Bool)(a had n:Int):dW:=λw V=>∃A:aU,Cell v 213 (ZL t p a had (Z A 0 0) n) w V
theorem O0.framed(v:Nat)(t:Int)(p:Bool)(a had n:Int):eu (O0 v t p a had n):=λw O V ⟨A,h⟩ N=>⟨A,Cell.framed v _ _ w O V h N⟩
end Go.Proofs.YtpeepcmdehhbgaaGreatDoor
end
section
variable{z:aQ}{k:Nat}
namespace Go.Proofs.YtpeepcmdehhbgaaGreatDoor
open RowKit Hop
structure Qu where
 (l:List abo.Ab) (k:Int)
structure Bk where
 (ep:Int) (eP:List Dl) (sh:Nat) (q:List Qu) (cuts:List (Int×Int))
def Qu.new:Qu:=⟨[],0⟩
def Bk.new:Bk:=⟨0,[],1,[.new,.new,.new,.new],[]⟩
def Bk.qu(b:Bk)(k:Nat):Qu:=b.q.getD k .new
def Bk.add(b:Bk)(k:Nat)(sq:Int)(ds:List Dl):Bk:=if abo.uB (b.qu k).l (b.qu k).k sq ds.length=0 then { b with eP:=b.eP.filter (λd => !Mn ds d),q:=b.q.set k ⟨(b.qu k).l++[(sq,ds)],sq⟩,cuts:=b.cuts++[((k:Int),sq)] } else b
def ZM(c:Int×Int):List K:=[(),J c.1,J c.2]
def pz(z:aQ)(i:Nat):K := .pointer (some ⟨z.getD i 0,0,none⟩)
def Fp(z:aQ)(sl cu:K)(b:Bk):Array K:=#[J b.ep,sl,J b.sh,pz z 0,pz z 1,pz z 2,pz z 3,cu]
def n_(z:aQ)(q:List Qu):List Bl:=(z.zip q).map λp => .o (abo.eh p.1 p.2.l p.2.k)
theorem KV(z:aQ)(q:List Qu):pF (n_ z q):=pT λx Y=>by obtain⟨p,_,rfl⟩:=List.mem_map.1 Y;exact abo.eh.framed _ _ _
theorem lh{q:List Qu}(hz:z.length=4)(hq:q.length=4)(N:k<4):(n_ z q)[k]?=some (.o (abo.eh (z.getD k 0) (q.getD k .new).l (q.getD k .new).k)):=by unfold n_;rw[List.getElem?_map,List.getElem?_eq_getElem (by simp;omega),df,List.getElem_zip];simp[List.getD_eq_getElem?_getD,List.getElem?_eq_getElem (show k<z.length by omega),List.getElem?_eq_getElem (show k<q.length by omega)]
theorem rZ{q:List Qu}(hz:z.length=4)(hq:q.length=4)(N:k<4)(x:Qu):(n_ z q).set k (.o (abo.eh (z.getD k 0) x.l x.k))=n_ z (q.set k x):=by
 unfold n_;apply List.ext_getElem?;intro i;rw[List.getElem?_map,List.getElem?_set,List.getElem?_map];by_cases hi:i<4
 ·rw[List.getElem?_eq_getElem (l:=z.zip q) (by simp;omega),List.getElem?_eq_getElem (l:=z.zip (q.set k x)) (by simp;omega),df,df,List.getElem_zip,List.getElem_zip,List.getElem_set]
  by_cases YY:k=i
  ·subst YY
   simp[hz,hq,N,List.getD_eq_getElem?_getD,List.getElem?_eq_getElem (show k<z.length by omega)]
  ·rw[aB YY];simp[YY]
 ·rw[List.getElem?_eq_none (l:=z.zip q) (by simp;omega),List.getElem?_eq_none (l:=z.zip (q.set k x)) (by simp;omega)]
  split;·omega
  ·rfl
theorem Wm{b:Bk}(hq:b.q.length=4)(N:k<4):b.q.set k ⟨(b.qu k).l,(b.qu k).k⟩=b.q:=by
 unfold Bk.qu;apply List.ext_getElem?;intro i;rw[List.getElem?_set];split
 ·rename_i h
  subst h;rw[aA ap,List.getD_eq_getElem?_getD,List.getElem?_eq_getElem (show k<b.q.length by omega)];rfl
 ·rfl
def gQ(st:Nat)(z:aQ)(sl cu:K)(b:Bk):List Bl := .c st 186 (Fp z sl cu b)::.o (fK 147 2 sl b.eP.length (fm b.eP))::.o (fK 37 3 cu b.cuts.length (b.cuts.flatMap ZM))::n_ z b.q
theorem AB(st:Nat)(z:aQ)(sl cu:K)(b:Bk):pF (gQ st z sl cu b):=⟨trivial,fK.framed _ _ _ _ _,fK.framed _ _ _ _ _,KV _ _⟩
def iq(st:Nat)(z:aQ)(b:Bk):dW:=λw V=>(z.length=4∧b.q.length=4)∧∃sl cu,dN (px (gQ st z sl cu b)) w V
theorem iq.framed(st:Nat)(z:aQ)(b:Bk):eu (iq st z b):=λw O V ⟨I,sl,cu,G⟩ N=>⟨I,sl,cu,dN.framed _ (fP (AB _ _ _ _ _)) w O V G N⟩
section
variable{V:aV}{w0 w O:X}{l:List Bl}{st:Nat}{b:Bk}
theorem iq.opn(h:St V w0 (.o (iq st z b)::l) w):(z.length=4∧b.q.length=4)∧∃sl cu,St V w0 (gQ st z sl cu b++l) w:=by obtain⟨U,hU,_⟩:=h.own.see 0 rfl;obtain⟨k,N⟩:=St.opn (κ:=K×K) (o:=λk=>gQ st z k.1 k.2 b) h λU ⟨_,sl,cu,hM⟩=>⟨(sl,cu),hM,AB _ _ _ _ _⟩;exact⟨hU.1,k.1,k.2,N⟩
theorem iq.cls{sl cu:K}(hz:z.length=4∧b.q.length=4)(h:St V w0 (gQ st z sl cu b++l) w):St V w0 (.o (iq st z b)::l) w:=h.cls (iq.framed _ _ _) λU hM=>⟨hz,sl,cu,hM⟩
end
theorem Wn(w:X)(U D D2:aV)(sl:K)(l:List Dl)(y m c:Nat)(sq:Int)(A:aU)(ds:List Dl)(hl:l.length<=1048576)(hU:∀b,D2 b->U b∨D b)(jR:∀b,U b∨D b->b<(w:Nat))(hd:jM w D2 A m ds)(hm:m<=1048576)(hy:U y)(hB:eJ w y 196 #[J sq,Z A m c]):Lw W (λb=>U b∨D b) 369 #[sl,.func (.func 370) #[] #[y]] [.o (fK 147 2 sl l.length (fm l))] (λsl' e=>e=b5 sl') (λsl'=>[.o (fK 147 2 sl' (l.filter λd => !Mn ds d).length (fm (l.filter λd => !Mn ds d)))]) w:=λV hM hV=>by
 obtain⟨V1,_,T,_,k1,_⟩:=hM;have hT:∀O,dM V1 w O->tc 370 #[y] (Mn ds) l O:=λO hj=>⟨λvs w=>by kernel_rfl,λw2 H d _=>by have lS:eJ w2 y 196 #[J sq,Z A m c]:=eJ.grow ((hj.block y (jR y (.inl hy)) λh=>(hV y (k1 y h)).2 (.inl hy)).trans hB) H;have Ye:jM w2 D2 A m ds:=In.grow (In.just hd hj λb hb h=>(hV b (k1 b h)).2 (hU b hb)) H;exact R_ w2 d.1 d.2 y m c sq A D2 ds Ye hm lS⟩
 refine (Wg w l V1 sl l.length T hl 370 y (Mn ds) (hT w (dM.dK (Grow.refl w))) hT).mono ?_;rintro e O ⟨sl',rfl,wI,hj⟩;exact⟨sl',rfl,⟨_,λ_=>False,wI.mono λb hb => .inl (k1 b hb),trivial,λ_ h=>h,λ_ h=>h.elim,λ_ _ h=>h⟩,hj.imp k1⟩
theorem O1:(Tryz.prog.info? 37).map (λi=>(i.zero,i.size,i.bytes))=some (some (aZ #[(),(),()]),3,24):=by kernel_rfl
theorem Wp:Elem W 81 37 3 24 (aZ #[(),(),()]):=⟨Tryz.underlying81,info_parts O1,rfl,by decide,by decide⟩
theorem O2(w:X)(D:aV)(st:Nat)(z:aQ)(b:Bk)(k:Nat)(N:k<4)(sq:Int)(ds:List Dl)(A:aU)(c:Nat)(hd:jM w D A ds.length ds)(vt:ds.length<=c)(iO:c<=dG)(tS:ds.length<=1048576)(j6:∀b,D b->b<(w:Nat))(hs:b.eP.length<=1048576)(E:b.cuts.length<=1048576):Lw W D 337 #[st,J k,aZ #[J sq,Z A ds.length c]] [.o (iq st z b)] (λ(_:Unit)e=>e=b5 (a_ #[])) (λ_=>[.o (iq st z (b.add k sq ds))]) w:=by
 intro V hM hV;have kV:∀x,D x->x<(w:Nat)∧¬ V x:=λx Y=>⟨j6 x Y,λh=>(hV x h).2 Y⟩;have hS:=St.begin_ hM (λb hb=>(hV b hb).1) ⟨iq.framed _ _ _,trivial⟩;obtain⟨⟨hz,hq⟩,sl,cu,hS⟩:=iq.opn hS;rw[bm] at hS;obtain⟨A1,c1,rfl,kM,ry⟩:=fK.nW hS 1 rfl;obtain⟨A2,c2,rfl,lV,zE⟩:=fK.nW hS 2 rfl;obtain⟨y,wa,HY,HA,hS⟩:=hS.new' #[J sq,Z A ds.length c] 196;obtain⟨g,Hg⟩:=az (z.getD k 0);have K5:(Fp z (Z A1 b.eP.length c1) (Z A2 b.cuts.length c2) b)[3+k]?=some ((g:K)):=by
  have h4:k=0∨k=1∨k=2∨k=3:=by omega
  rw[Hg.out];rcases h4 with rfl|rfl|rfl|rfl<;>rfl
 have vB:∀O,St V w (.c y 196 #[J sq,Z A ds.length c]::gQ st z (Z A1 b.eP.length c1) (Z A2 b.cuts.length c2) b) O->O.cell? ⟨st,3+k,none⟩=some ((g:K))∧O.cell? ⟨y,0,none⟩=some (J sq)∧O.cell? ⟨y,1,none⟩=some (Z A ds.length c):=λO h=>by have hf:=h.facts;exact⟨(hf.2.1.1 (3+k)).trans K5,hf.1.1 0,hf.1.1 1⟩
 go_in;go_wp2_with fail;rw[<-HA.out,<-HY.out];have eW:=hS.grow (Grow.refl _).drew;have CF:=vB _ eW;refine dJ rfl ?_;refine fC (λO=>O.cell? ⟨st,3+k,none⟩=some ((g:K))∧O.cell? ⟨y,0,none⟩=some (J sq)∧O.cell? ⟨y,1,none⟩=some (Z A ds.length c)) [] 9 rfl [0,1,2,3,4,5,6] ?_;iterate 4 (refine eV rfl CF (λw1 ⟨I,G,L⟩=>aM) ?_)
 refine eV rfl CF (λw1 ⟨I,G,L⟩ R T=>by go_simp;rw[aA ap];go_simp;exact T) ?_;iterate 2 (refine eV rfl CF (λw1 ⟨I,G,L⟩=>aM) ?_)
 refine eZ 7 [8] rfl ?_;go_wp2_with fail;rw[Hg.out];have Qz:∀l' O,St V w l' O->jM O D A ds.length ds:=λl' O h=>In.keep hd λb hb _=>h.keep kV b hb;obtain⟨abl,HE⟩:=az (abo.uB (b.qu k).l (b.qu k).k sq ds.length);refine (eW.Fo (k+4) (S:=abo.eh (z.getD k 0) (b.qu k).l (b.qu k).k) (lh hz hq N) (λ_=>abo.eh.framed _ _ _) (St.far kV) (λU hU jR=>Lw.turns (abo.sX _ D _ _ _ sq A ds.length c ds (Qz _ _ eW) vt iO))).mono ?_;rw[<-HE.out];rintro e w1 ⟨_,rfl,ej⟩;have ej:St V w (.c y 196 #[J sq,Z A ds.length c]::.c st 186 (Fp z (Z A1 b.eP.length c1) (Z A2 b.cuts.length c2) b)::.o (fK 147 2 (Z A1 b.eP.length c1) b.eP.length (fm b.eP))::.o (fK 37 3 (Z A2 b.cuts.length c2) b.cuts.length (b.cuts.flatMap ZM))::n_ z (b.q.set k ⟨abo.Gl (b.qu k).l (b.qu k).k sq ds.length ds,abo.Gm (b.qu k).l (b.qu k).k sq ds.length⟩)) w1:=by rw[<-rZ hz hq N];exact ej
 have CF:w1.cell? ⟨st,3+k,none⟩=some ((g:K))∧w1.cell? ⟨y,0,none⟩=some (J sq)∧w1.cell? ⟨y,1,none⟩=some (Z A ds.length c):=by have hf:=ej.facts;exact⟨(hf.2.1.1 (3+k)).trans K5,hf.1.1 0,hf.1.1 1⟩
 clear eW hS;have lA:b.add k sq ds=if abl=0 then { b with eP:=b.eP.filter (λd => !Mn ds d),q:=b.q.set k ⟨(b.qu k).l++[(sq,ds)],sq⟩,cuts:=b.cuts++[((k:Int),sq)] } else b:=by rw[HE.out];rfl
 by_cases h0:abl=0
 ·rw[aA h0] at lA
  have hL:abo.Gl (b.qu k).l (b.qu k).k sq ds.length ds=(b.qu k).l++[(sq,ds)]:=by unfold abo.Gl;rw[aA (by rw[<-HE.out];exact h0)]
  have hK:abo.Gm (b.qu k).l (b.qu k).k sq ds.length=sq:=by unfold abo.Gm;rw[aA (by rw[<-HE.out];exact h0)]
  rw[hL,hK] at ej;replace lA:=Q lA;subst h0;go_wp2_with fail;refine⟨λ_=>CF,?_⟩;refine eV rfl CF (λw1 ⟨I,G,L⟩=>aM) ?_;refine gj ?_;have jQ:w1.cell? ⟨st,1,none⟩=some (Z A1 b.eP.length c1):=ej.facts.2.1.1 1;go_wp2_with fail;refine (ej.Fo 2 rfl (λ_=>fK.framed _ _ _ _ _) (St.far kV) (λU hU jR=>Wn w1 U D D (Z A1 b.eP.length c1) b.eP y ds.length c sq A ds hs (λ_ h => .inr h) (λx Y=>Y.elim (jR x) λh=>bw (j6 x h) ej.size) (Qz _ _ ej) tS (xe hU 0 rfl).1 (xe hU 0 rfl).2)).mono ?_;rintro e w2 ⟨sl',rfl,dV⟩;simp only[bz,bA] at dV;obtain⟨A3,c3,rfl,sy,R4⟩:=fK.nW dV 2 rfl;clear CF jQ ej;have QO:=dV.facts.2.1;simp only[Fp] at QO;go_wp2_with fail;have dX:=dV.put 1 rfl 1 (Z A3 (b.eP.filter λd => !Mn ds d).length c3);clear dV QO;generalize (w2.setCell ⟨st,1,none⟩ (Z A3 (b.eP.filter λd => !Mn ds d).length c3))=w3 at dX;obtain⟨y2,wb,xL,HB,eO⟩:=dX.new' #[(),J k,J sq] 37;have sy:w3.drew.cell? ⟨st,7,none⟩=some (Z A2 b.cuts.length c2)∧w3.drew.cell? ⟨y,0,none⟩=some (J sq):=by have hf:=(dX.grow (Grow.refl _).drew).facts;exact⟨hf.2.1.1 7,hf.1.1 0⟩
  refine dJ rfl ?_;refine fC (λO=>O.cell? ⟨st,7,none⟩=some (Z A2 b.cuts.length c2)∧O.cell? ⟨y,0,none⟩=some (J sq)) [11,12,13] 14 rfl [0,1,2,3,4,5,6,7,8] ?_;iterate 9 (refine eV rfl sy (λw1 ⟨I,G⟩=>aM) ?_)
  refine eZ 9 [] rfl ?_;go_wp2_with fail;rw[<-HB.out,<-xL.out];have eF:=eO.grow (Grow.refl _).drew;refine⟨λ_=>⟨eF.facts.2.2.1.1 7,eF.facts.2.1.1 0⟩,?_⟩;refine eZ 10 [] rfl ?_;refine g_ Wp rfl (.tmp 28) (.tmp 33) rfl rfl (eF.front 4 rfl) (A:=some ⟨y2,0,none⟩) (m:=1) (c:=1) (news:=[(),J k,J sq]) rfl (In.reads ((eF.blk 0 rfl).jL (size:=3) (n:=1) rfl)) (by simp[Value.oneCell']) ap ?_;intro v' w4 eN;obtain⟨A6,c6,rfl,kU,hm6⟩:=fK.nW eN 0 rfl;refine wpList_nil ⟨λ_=>⟨eN.facts.2.2.1.1 7,eN.facts.2.1.1 0⟩,?_⟩;refine fY 11 rfl aw ?_;have hf6:=eN.facts.2.2.1;simp only[Fp] at hf6;go_wp2_with fail;have fH:=((eN.put 3 rfl 7 (Z A6 (b.cuts.length+1) c6)).dO 1 rfl).dO 1 rfl;go_end0;have fD:=iq.cls (l:=[]) (st:=st) (z:=z) (b:=b.add k sq ds) (sl := Z A3 (b.eP.filter λd => !Mn ds d).length c3) (cu := Z A6 (b.cuts.length+1) c6) (by rw[lA.out];exact⟨hz,by rw[dh];exact hq⟩) (by rw[bm,lA.out];have h9:=fH.perm ((List.Perm.swap _ _ _).trans (List.Perm.cons _ (List.Perm.swap _ _ _)));unfold gQ;dsimp only;rw[bd,bL];exact h9)
  obtain⟨r1,r2⟩:=fD.fin;exact⟨(),rfl,r1,r2⟩
 ·rw[aB h0] at lA
  have hL:abo.Gl (b.qu k).l (b.qu k).k sq ds.length ds=(b.qu k).l:=by unfold abo.Gl;rw[aB (by rw[<-HE.out];exact h0)]
  have hK:abo.Gm (b.qu k).l (b.qu k).k sq ds.length=(b.qu k).k:=by unfold abo.Gm;rw[aB (by rw[<-HE.out];exact h0)]
  rw[hL,hK,Wm hq N] at ej;have Mc:(abl != 0)=true:=by simp[h0]
  replace lA:=Q lA;replace h0:=Q h0;go_wp2_with fail;refine⟨λ_=>CF,?_⟩;refine eV rfl CF (λw1 ⟨I,G,L⟩=>aM) ?_;refine gj ?_;go_wp2;refine bodyPost_ret (results_none rfl _ _ _) rfl ?_;obtain⟨r1,r2⟩:=(iq.cls (l:=[]) ⟨hz,hq⟩ (by rw[bm];exact ej.dO 0 rfl)).fin;exact⟨(),rfl,by rw[lA.out];exact r1,r2⟩
end Go.Proofs.YtpeepcmdehhbgaaGreatDoor
end
section
variable{w:X}{x:Nat}{o:dE}{ρ:Go.Operand->K}{n:Int}
namespace Go.Proofs.YtpeepcmdehhbgaaGreatDoor
open RowKit Hop V
def eB(e:En):List UInt8:=enc (pg e).length++pg e
def r_(l:List En):List UInt8:=l.flatMap eB
theorem Wq{e:En}(h:e.Ok):(eB e).length<=9010:=by have:=vZ h;have:=eE (n:=(pg e).length) ap;unfold eB;rw[bd];omega
theorem Je:∀(l:List En),(∀e∈l,e.Ok)->(r_ l).length<=l.length*9010
 | [],_=>by simp[r_]
 | e::l,h=>by
   have I:=Je l λx Y=>h x (by simp[Y]);have G:=Wq (h e (by simp));rw[show r_ (e::l)=eB e++r_ l from rfl,bd,bD];omega
theorem O3(l:List En)(e:En):r_ (l++[e])=r_ l++eB e:=by simp[r_]
theorem xM(w:X)(u:K)(l:aT)(D:aV)(A:aU)(c:Nat)(q:List El)(hu:eM l u w)(hl:l.length<=1048576)(hq:jO w D A q)(gC:∀x∈q,x.e.Ok)(hn:q.length<=1024):dz W 181 #[u,Z A q.length c] w λe O=>∃v,e=b5 v∧Grow w O∧eM (l++enc q.length++r_ (q.map El.e)) v O:=by
 have wq:IntKind.u64.wrap (q.length:Int)=(q.length:Int):=by rw[wrap_u64];omega
 have hP:=ic w u l q.length hu ap ap;have hel:=eE (n:=q.length) ap;obtain⟨L0,Ml⟩:=az (l++enc q.length:aT);rw[<-Ml.out] at hP ⊢;have QN:L0.length<=1048600:=by rw[Ml.out,bd];omega
 go_in;go_wp2_with fail;refine hP.mono ?_;rintro e w1 ⟨v1,rfl,eD,lU⟩;have Fg:=hq.grow eD;go_wp2_with fail;go_loopw [0,16] (λv i wr=>∃k:Nat,k<=q.length∧i=J k∧eM (L0++r_ ((q.take k).map El.e)) v wr∧Grow w1 wr) (λ_ i _=>q.length-(intOf i).toNat);case atStart=>exact⟨0,by omega,rfl,by simpa [r_] using lU,Grow.refl _⟩
 case round=>
  obtain⟨k,oL,rfl,hI,gP⟩:=hrel;by_cases N:k<q.length
  ·have Iy:=Fg.grow gP
   obtain⟨ad,vo,rfl,hV,i4,e0,e1⟩:=Iy.1.mr ap pf N;have jE:=Iy.2 q[k] (bF vo);have vq:q.take (k+1)=q.take k++[q[k]]:=br vo;have hqm:=bF vo;have HS:=Q vq;clear vq;have re:=gC _ hqm;have wu:=Je ((q.take k).map El.e) λe he=>by obtain⟨x,Y,rfl⟩:=List.mem_map.1 he;exact gC x (bW Y)
   rw[bj,bn,cz ap] at wu;have HLL:=Q wu;clear wu hqm;generalize q[k]=b at jE e0 e1 HS re;have ZN:=λw1(eD:Grow wr w1)=>DW w1 b.e D b.A b.c re (In.grow jE.1 eD);have fj:=vZ re;obtain⟨⟨bk,ag,sh,sq,ep,ds,se,fr,tg⟩,Ab,cb⟩:=b;dsimp only[El.cells,En.agg] at e0 e1 ZN;have e1:=e1 0 _ rfl;have e0:=e0 _ rfl;have fu:=dT wr (.cells #[J bk,J ag,J sh,J sq,J ep,Z Ab ds.length cb,aX se,J fr,J tg] 40);have ZN:=ZN _ fu;obtain⟨bs,HB⟩:=az (pg ⟨bk,ag,sh,sq,ep,ds,se,fr,tg⟩:List UInt8);rw[<-HB.out] at ZN fj;clear jE re;go_wp2_with fail;refine ZN.mono ?_;rintro e w2 ⟨v2,rfl,fk,lA⟩;have cv:=IF w2 lA;have hT:=t8 w2 u0 _ ⟨bs.toArray⟩ (hI.below (fu.trans fk)) (by rw[bd];have:=HLL.out;have:=cK 9010 (show k<=1024 by omega);omega) (by show bs.toArray.size<=_;simp;omega);rw[show (ByteArray.mk bs.toArray).size=bs.length by show bs.toArray.size=_;simp,show (ByteArray.mk bs.toArray).data.toList=bs from rfl] at hT;go_wp2_with fail;refine hT.mono ?_;rintro e w3 ⟨v3,rfl,ib,MB⟩;have hb4:eM (L0++r_ ((q.take (k+1)).map El.e)) v3 w3:=by rw[HS.out,bI,bQ,cQ,O3,<-bp];show eM (L0++r_ ((q.take k).map El.e)++(enc (pg ⟨bk,ag,sh,sq,ep,ds,se,fr,tg⟩).length++pg ⟨bk,ag,sh,sq,ep,ds,se,fr,tg⟩)) v3 w3;rw[<-HB.out,<-bp];exact MB
   go_wp2_with fail;go_roundw;case rel=>exact⟨k+1,by omega,by go_num,hb4,gP.trans (fu.trans (fk.trans ib))⟩
   case measure=>simp[intOf];omega
  ·obtain rfl:k=q.length:=by omega
   rw[dq] at hI;go_wp2;go_ret;exact⟨_,rfl,eD.trans gP,hI⟩
def fT(A:aU)(q:List El):dW:=λw V=>jO w V A q
theorem fT.framed(A:aU)(q:List El):eu (fT A q):=λw O V h N=>⟨h.1.keep λb hb _=>N b hb,λx Y=>⟨In.keep (h.2 x Y).1 λb hb _=>N b hb,(h.2 x Y).2⟩⟩
def nC(t h:Nat)(l:List En):List UInt8:=enc t++enc h++enc l.length++r_ l
def lY(t h:Int)(sl:K)(x:Nat):Array K:=#[J t,J h,sl,x]
def Room(bs b:aT):Prop:=b.length<=65536∧bs.length+(frame b).length<=1048576
def DY(size n:Nat)(xs:List K)(u:K)(w:X):Prop:=∃A,u=Z A n n∧In w (λ_=>True) size A n xs
theorem BW(size n:Nat)(xs:List K):QU (DY size n xs):=λu w O ⟨A,e,h⟩ H=>⟨A,e,h.grow H⟩
theorem xN{t:dC}{cs:aP}(h:eJ w x t cs){size n:Nat}(hn:cs.toList.length=n*size):DY size n cs.toList (Z (some ⟨x,0,none⟩) n n) w:=⟨_,rfl,(h.jL hn).mono λ_ _=>trivial⟩
theorem Gx{x y z:Operand}{a b c:Int}(ho:o.op=.buildSlice 72 3 #[(0,x),(1,y),(2,z)])(Y:ρ x=J a)(hy:ρ y=J b)(hz:ρ z=J c):gE W (λu O=>Grow w O∧DY 1 3 [J a,J b,J c] u O) ((execOp ρ o).run W w):=by obtain⟨dst,op,ty,pos,after,guard⟩:=o;simp only at ho;subst ho;exact gv (u := Z (some ⟨(w:Nat),0,none⟩) 3 3) (w:=w.alloc (.cells #[J a,J b,J c] 2)) (by go_simp) ⟨(Below.refl _ w).alloc (bh _) _,xN (eJ.made w _ _) rfl⟩
theorem xO{x:Operand}{s:aR}(ho:o.op=.buildSlice 38 1 #[(0,x)])(Y:ρ x=aZ #[aX s,ae ah n]):gE W (λu O=>Grow w O∧DY 2 1 [aX s,ae ah n] u O) ((execOp ρ o).run W w):=by obtain⟨dst,op,ty,pos,after,guard⟩:=o;simp only at ho;subst ho;exact gv (u := Z (some ⟨(w:Nat),0,none⟩) 1 1) (w:=w.alloc (.cells #[aX s,ae ah n] 147)) (by go_simp) ⟨(Below.refl _ w).alloc (bh _) _,xN (eJ.made w _ _) rfl⟩
theorem KW(w:X)(k n:Nat)(ns:aQ)(u:K)(h:DY 1 n (ns.map λ(x:Nat) => J x) u w)(N:k<18446744073709551616)(hn:n<=8)(hs:∀x∈ns,x<=9223372036854775807):dz W 259 #[ae ah k,u] w λe O=>∃v,e=b5 v∧Grow w O∧eM (iJ k ns) v O:=by obtain⟨A,rfl,h⟩:=h;exact mR w k A n n ns _ h N hn hs
theorem S6(w:X)(u v:K)(l:aT)(n:Nat)(ds:List Dl)(hu:eM l u w)(hl:l.length<=1048576)(hd:DY 2 n (fm ds) v w)(hn:n<=1048576)(hs:∀d∈ds,Small d):dz W 299 #[u,v] w λe O=>∃v,e=b5 v∧Grow w O∧eM (l++o7 ds) v O:=by obtain⟨A,rfl,h⟩:=hd;exact uE w u l _ A n n ds hu hl h hn hs
theorem DZ(k:Nat)(ns:aQ)(N:k<18446744073709551616)(h:∀x∈ns,x<18446744073709551616):(iJ k ns).length<=10+ns.length*10:=by have:=eE N;have:=tj ns h;unfold iJ;rw[bd];omega
theorem D_(w:X)(s:aR)(x:Nat)(hs:Small (s,x)):dz W 279 #[aZ #[aX s,ae ah x]] w λe O=>∃v,e=b5 v∧Grow w O∧eM (iJ 2 []++o7 [(s,x)]) v O:=by
 have fu:=dT w (.cells #[aX s,ae ah x] 147);have gU:=eJ.made w 147 #[aX s,ae ah x];obtain⟨y,HY⟩:=az ((w:Nat):Nat);obtain⟨wa,lZ⟩:=az (w.alloc (.cells #[aX s,ae ah x] 147):X);rw[<-lZ.out] at fu gU;rw[<-HY.out] at gU;have hl:=DZ 2 [] am (by simp);have sB:∀d∈[(s,x)],Small d:=λd hd=>by rw[List.mem_singleton.1 hd];exact hs
 go_in;go_wp2_with fail;rw[<-lZ.out,<-HY.out];have gd:Grow wa wa.drew:=(Grow.refl _).drew;refine dJ rfl ?_;refine fC (Grow wa) [] 5 rfl [1] ?_;refine eV rfl gd (λw1 H R T=>by have c0:=(gU.grow H).cell 0;have c1:=(gU.grow H).cell 1;go_simp;exact T) ?_;refine Rv 0 2 [] [] rfl rfl ?_ ?_;case' refine_1=>
  go_wp2_with fail;refine (mR _ 2 none 0 0 [] (λ_=>True) In.nil am am (by simp)).mono ?_;rintro en u1 ⟨v3,rfl,pO,lU⟩;replace pO:=gd.trans pO;go_wp2_with fail;refine⟨λ_=>pO,?_⟩;refine eZ 2 [] rfl ?_;refine fV rfl (xO (x := .tmp 4) rfl rfl) ?_;rintro v5 u2 ⟨ng,hb5⟩;replace lU:=lU.below ng;replace ng:=pO.trans ng;go_wp2_with fail;refine⟨λ_=>ng,?_⟩
 case' refine_2=>
  refine fV rfl (xO (x := .tmp 4) rfl rfl) ?_;rintro v5 u0 ⟨ng,hb5⟩;replace ng:=gd.trans ng;go_wp2_with fail;refine⟨λ_=>ng,?_⟩;refine eZ 0 [] rfl ?_;go_wp2_with fail;refine (mR _ 2 none 0 0 [] (λ_=>True) In.nil am am (by simp)).mono ?_;rintro en u1 ⟨v3,rfl,pO,lU⟩;replace hb5:=BW _ _ _ _ _ _ hb5 pO;replace ng:=ng.trans pO;go_wp2_with fail;refine⟨λ_=>ng,?_⟩
 all_goals
  refine eZ 3 [] rfl ?_
  go_wp2_with fail
  refine (S6 _ v3 v5 _ 1 [(s,x)] lU (by simp at hl;omega) hb5 am sB).mono ?_
  rintro en w1 ⟨v6,rfl,H,hE⟩
  replace H:=ng.trans H
  go_wp2_with fail
  refine⟨λ_=>H,?_⟩
  refine eZ 4 [] rfl ?_
  go_wp2_with fail
  refine⟨λ_=>H,?_⟩
  refine gj ?_
  go_wp2
  go_ret
  exact⟨_,rfl,fu.trans H,hE⟩
theorem Gy(w:X)(k sq:Nat)(A:aU)(n c:Nat)(ds:List Dl)(D:aV)(hd:jM w D A n ds)(hn:n<=8)(N:k<=9223372036854775807)(pi:sq<=9223372036854775807)(hs:∀d∈ds,Small d):dz W 336 #[J k,aZ #[J sq,Z A n c]] w λe O=>∃v,e=b5 v∧Grow w O∧eM (iJ 3 [k,sq,n]++o7 ds) v O:=by
 have fu:=dT w (.cells #[J sq,Z A n c] 196);have gU:=eJ.made w 196 #[J sq,Z A n c];obtain⟨y,HY⟩:=az ((w:Nat):Nat);obtain⟨wa,lZ⟩:=az (w.alloc (.cells #[J sq,Z A n c] 196):X);rw[<-lZ.out] at fu gU;rw[<-HY.out] at gU;have hda:=In.grow hd fu;have hl:=DZ 3 [k,sq,n] am (by intro x Y;simp only[cI,cF,or_false] at Y;omega);have Be:(iJ 3 [k,sq,n]).length<=1048576:=by simp at hl;omega
 clear hl;go_in;go_wp2_with fail;rw[<-lZ.out,<-HY.out];have gd:Grow wa wa.drew:=(Grow.refl _).drew;refine dJ rfl ?_;refine gi (Grow wa) 12 rfl ?_;refine held 0 rfl gd (λw1 E R T=>by have c0:=(gU.grow E).cell 0;have c1:=(gU.grow E).cell 1;go_simp;exact T) ?_;refine held 1 rfl gd (λw1 E R T=>by have c0:=(gU.grow E).cell 0;have c1:=(gU.grow E).cell 1;go_simp;exact T) ?_;refine held 2 rfl gd (λw1 E R T=>by have c0:=(gU.grow E).cell 0;have c1:=(gU.grow E).cell 1;go_simp;exact T) ?_;refine held 3 rfl gd (λw1 E R T=>by have c0:=(gU.grow E).cell 0;have c1:=(gU.grow E).cell 1;go_simp;exact T) ?_;refine held 4 rfl gd (λw1 E R T=>by have c0:=(gU.grow E).cell 0;have c1:=(gU.grow E).cell 1;go_simp;exact T) ?_;refine held 5 rfl gd (λw1 E R T=>by have c0:=(gU.grow E).cell 0;have c1:=(gU.grow E).cell 1;go_simp;exact T) ?_;refine held 8 rfl gd (λw1 E R T=>by have c0:=(gU.grow E).cell 0;have c1:=(gU.grow E).cell 1;go_simp;exact T) ?_;refine held 9 rfl gd (λw1 E R T=>by have c0:=(gU.grow E).cell 0;have c1:=(gU.grow E).cell 1;go_simp;exact T) ?_;refine dY 6 rfl ?_;refine fV rfl (Gx (x := .tmp 5) (y := .tmp 7) (z := .tmp 10) rfl rfl rfl rfl) ?_;rintro v11 u0 ⟨gl,hb0⟩;replace gl:=gd.trans gl;go_wp2_with fail;refine⟨gl,?_⟩;refine dY 7 rfl ?_;go_wp2_with fail;refine (KW u0 3 3 [k,sq,n] v11 hb0 am am (by intro x Y;simp only[cI,cF,or_false] at Y;omega)).mono ?_;rintro en u1 ⟨v12,rfl,eD,lU⟩;replace eD:=gl.trans eD;go_wp2_with fail;refine⟨eD,?_⟩;refine dY 10 rfl ?_;go_wp2_with fail;refine (uE u1 v12 _ D A n c ds lU Be (In.grow hda eD) ap hs).mono ?_;rintro en w1 ⟨v15,rfl,H,hE⟩;replace H:=eD.trans H;go_wp2_with fail;refine⟨H,?_⟩;refine held 11 rfl H (λw1 E=>aM) ?_;refine eU ?_;go_wp2;go_ret;exact⟨_,rfl,fu.trans H,hE⟩
def gG(s x d t h:Nat)(es:List En)(n:Int)(bs:aT):dW:=λw V=>∃(A:aU)(c:Nat)(q:List El),q.map El.e=es∧q.length<=c∧c<=dG∧dN [fT A q,Cell s 206 (lY t h (Z A q.length c) x),eC x d n bs bs.length] w V
theorem BX(A:aU)(q:List El)(s x d:Nat)(cs:aP)(n:Int)(bs:aT)(k:Nat):eG [fT A q,Cell s 206 cs,eC x d n bs k]:=((eG.nil.cons (eC.framed _ _ _ _ _)).cons (Cell.framed _ _ _)).cons (fT.framed _ _)
theorem gG.framed(s x d t h:Nat)(es:List En)(n:Int)(bs:aT):eu (gG s x d t h es n bs):=λw O V ⟨A,c,q,I,G,L,h4⟩ N=>⟨A,c,q,I,G,L,dN.framed _ (BX _ _ _ _ _ _ _ _ _) w O V h4 N⟩
theorem gG.cells{s d t h:Nat}{es:List En}{bs:aT}{V:aV}(hS:gG s x d t h es n bs w V):∃(A:aU)(c:Nat)(q:List El),q.map El.e=es∧q.length<=c∧c<=dG∧(∃D,jO w D A q)∧eJ w s 206 (lY t h (Z A q.length c) x):=by obtain⟨A,c,q,I,G,L,V1,V2,hE,⟨V3,V4,hB,_⟩,_⟩:=hS;exact⟨A,c,q,I,G,L,⟨V1,hE⟩,hB.2⟩
theorem AE(w:X)(s x d t h:Nat)(es:List En)(n:Int)(bs:aT)(V:aV)(hS:gG s x d t h es n bs w V):dz W 56 #[s] w λe O=>e=b5 (J t)∧w=O:=by obtain⟨A,c,q,_,_,_,_,hB⟩:=hS.cells;unfold lY at hB;have c0:=hB.cell 0;go_in;go_wp2;go_ret;exact⟨rfl,rfl⟩
theorem E3(w:X)(s x d t h:Nat)(es:List En)(n:Int)(bs:aT)(V:aV)(hS:gG s x d t h es n bs w V):dz W 61 #[s] w λe O=>e=b5 (J h)∧w=O:=by obtain⟨A,c,q,_,_,_,_,hB⟩:=hS.cells;unfold lY at hB;have c0:=hB.cell 1;go_in;go_wp2;go_ret;exact⟨rfl,rfl⟩
theorem tp(w:X)(s x d t h:Nat)(es:List En)(n:Int)(bs:aT)(V:aV)(hS:gG s x d t h es n bs w V):dz W 108 #[s] w λe O=>e=b5 (J es.length)∧w=O:=by
 obtain⟨A,c,q,hq,_,_,_,hB⟩:=hS.cells;have hl:es.length=q.length:=by rw[<-hq,bj]
 unfold lY at hB;have c0:=hB.cell 2;rw[hl];clear hl;go_in;go_wp2;go_ret;exact⟨rfl,rfl⟩
theorem qd(w:X)(s x d t h:Nat)(es:List En)(n:Int)(bs:aT)(V:aV)(hS:gG s x d t h es n bs w V)(hn:es.length<=1048576):dz W 62 #[s] w λe O=>∃u,e=b5 u∧Ja es w u O∧(∃A',u=Z A' es.length es.length)∧Grow w O:=by
 obtain⟨A,c,q,hq,_,_,⟨D,hE⟩,hB⟩:=hS.cells;have hl:es.length=q.length:=by rw[<-hq,bj]
 have hC:=mQ w D A c q hE ap;rw[hq,<-hl] at hC;unfold lY at hB;rw[<-hl] at hB;have c0:=hB.cell 2;clear hl;go_in;go_wp2_with fail;refine hC.mono ?_;rintro e w1 ⟨u,rfl,hI,hu,H⟩;go_wp2;go_ret;exact⟨u,rfl,hI,hu,H⟩
end Go.Proofs.YtpeepcmdehhbgaaGreatDoor
end
section
variable{w:X}{g k:Nat}{cur:aP}
namespace Go.Proofs.YtpeepcmdehhbgaaGreatDoor
open RowKit Hop
structure Qs where
 (a b c d:Nat)
def bkC(ep:Int)(sl:K)(z:Qs)(cu:K):Array K:=#[J ep,sl,J 1,.pointer (some ⟨z.a,0,none⟩),.pointer (some ⟨z.b,0,none⟩),.pointer (some ⟨z.c,0,none⟩),.pointer (some ⟨z.d,0,none⟩),cu]
def UC(sl:K)(l:List Dl):dW:=λw V=>Row w V 147 2 sl l.length (fm l)
theorem UC.framed(sl:K)(l:List Dl):eu (UC sl l):=λw O V h N=>Row.keep h λb hb _=>N b hb
theorem UC.nil(w:X)(V:aV):UC (Z none 0 0) [] w V:=Row.nil
def UD(s:Nat)(z:Qs)(ep:Int)(sl:K)(eP:List Dl)(l0:List abo.Ab)(k0:Int)(cu:K):List dW:=[Cell s 186 (bkC ep sl z cu),UC sl eP,abo.eh z.a l0 k0,abo.eh z.b [] 0,abo.eh z.c [] 0,abo.eh z.d [] 0]
def E4(s:Nat)(z:Qs)(ep:Int)(sl:K)(eP:List Dl)(l0:List abo.Ab)(k0:Int)(cu:K):dW:=dN (UD s z ep sl eP l0 k0 cu)
theorem BZ(s:Nat)(z:Qs)(ep:Int)(sl:K)(eP:List Dl)(l0:List abo.Ab)(k0:Int)(cu:K):eG (UD s z ep sl eP l0 k0 cu):=(((((eG.nil.cons (abo.eh.framed _ _ _)).cons (abo.eh.framed _ _ _)).cons (abo.eh.framed _ _ _)).cons (abo.eh.framed _ _ _)).cons (UC.framed _ _)).cons (Cell.framed _ _ _)
theorem E4.framed(s:Nat)(z:Qs)(ep:Int)(sl:K)(eP:List Dl)(l0:List abo.Ab)(k0:Int)(cu:K):eu (E4 s z ep sl eP l0 k0 cu):=dN.framed _ (BZ _ _ _ _ _ _ _ _)
def pq(gs:aQ)(i:Nat):K:=(gs[i]?.map λg => ((g:Nat):K)).getD (.pointer none)
def QA(gs:aQ):Array K:=#[(),ay,J 1,pq gs 0,pq gs 1,pq gs 2,pq gs 3,ay]
theorem O4(gs:aQ)(g:Nat)(h:gs.length<4):(QA gs).setIfInBounds (3+gs.length) ((g:K))=QA (gs++[g]):=by
 match gs,h with
 | [],_=>rfl
 | [a],_=>rfl
 | [a,b],_=>rfl
 | [a,b,c],_=>rfl
theorem O5(gs:aQ)(h:gs.length<4):(QA gs)[3+gs.length]?=some (.pointer none):=by
 match gs,h with
 | [],_=>rfl
 | [a],_=>rfl
 | [a,b],_=>rfl
 | [a,b,c],_=>rfl
def ZO(B:Nat)(u:K)(w:X):Prop:=∃g,u=((g:Nat):K)∧∃V:aV,(∀b,V b->B<=b∧b<(w:Nat))∧abo.eh g [] 0 w V
theorem S7(wr w:X)(hs:Grow wr w):dz W 257 #[] w λe O=>∃v,e=b5 v∧Grow w O∧ZO (wr:Nat) v O:=(abo.oS w).mono λe O ⟨I,G,L⟩=>⟨_,I,L,_,rfl,_,λb hb=>⟨by have:=hs.size;have:=hb.1;omega,hb.2⟩,G⟩
theorem B_(s:Nat)(cs:aP)(gs:aQ):eG (Cell s 186 cs::gs.map λg=>abo.eh g [] 0):=eG.cons (Cell.framed _ _ _) λS hS=>by obtain⟨g,_,rfl⟩:=List.mem_map.1 hS;exact abo.eh.framed _ _ _
theorem O6(w:X):dz W 198 #[] w λe O=>∃s z,e=b5 (((s:Nat):K))∧E4 s z 0 (Z none 0 0) [] [] 0 (Z none 0 0) O (New w O)∧Grow w O:=by
 have k257:∀(vs:aP)(w:X),(callFunc 257 vs).run W w=.ok (.enter 257 vs) w:=λvs w=>by go_simp
 have fu:=dT w (.cells (QA []) 186);have UF:=eJ.made w 186 (QA []);obtain⟨s,HS⟩:=az ((w:Nat):Nat);obtain⟨wa,lZ⟩:=az (w.alloc (.cells (QA []) 186):X);rw[<-lZ.out] at fu UF;rw[<-HS.out] at UF;have fN:Solo (λb=>(w:Nat)<=b) (dN (Cell s 186 (QA [])::([]:List Nat).map λg=>abo.eh g [] 0)) wa:=Solo.VA (V:=λb=>b=s) (λb hb=>by have:=fu.size;omega) ⟨λb=>b=s,λ_=>False,⟨rfl,UF⟩,trivial,λ_ h=>h,λ_ h=>h.elim,λ_ _ h=>h⟩ λb hb=>by have:=HS.out;have:=UF.lt;omega
 have HA2:Hid (wa=w.alloc (.cells #[(),ay,J 1,.pointer none,.pointer none,.pointer none,.pointer none,ay] 186)):=lZ;clear lZ;go_in;go_wp2_with fail;rw[<-HA2.out,<-HS.out];go_loopw [5] (λi wr=>∃gs:aQ,gs.length<=4∧i=J gs.length∧Solo (λb=>(w:Nat)<=b) (dN (Cell s 186 (QA gs)::gs.map λg=>abo.eh g [] 0)) wr∧dM (λb=>(w:Nat)<=b) w wr) (λi _=>4-(intOf i).toNat);case atStart=>exact⟨[],by decide,rfl,fN,dM.dK fu⟩
 case round=>
  obtain⟨gs,z8,rfl,hS,hj⟩:=hrel;by_cases N:gs.length<4
  ·have hF:=B_ s (QA gs) gs
   have hB:=hS.blk 0 rfl;have a4l:decide ((gs.length:Int)<4)=true:=aC ap;obtain⟨k,HK⟩:=az (gs.length:Nat);have Fy:=O5 gs N;rw[<-HK.out] at a4l N Fy ⊢;go_wp2_with fail;refine dJ rfl ?_;refine gi (λ_=>True) 7 rfl ?_;refine held 0 rfl trivial (λw1 E=>aM) ?_;refine held 1 rfl trivial (λw1 E=>aM) ?_;refine held 3 rfl trivial (λw1 E=>aM) ?_;refine held 4 rfl trivial (λw1 E=>aM) ?_;refine dY 2 rfl ?_;go_wp2_with fail;refine (S7 wr _ (Grow.refl wr).drew).mono ?_;rintro en w1 ⟨v10,rfl,H,hq⟩;replace H:=Below.trans (Grow.refl wr).drew H;go_wp2_with fail;refine⟨trivial,?_⟩;refine held 5 rfl trivial (λw1 E R T=>by go_simp;rw[aA (show (k:Int)<4 by omega)];go_simp;exact T) ?_;refine dY 6 rfl ?_;obtain⟨g,rfl,V,hV,hQ⟩:=hq;have ej:=(hS.join hF H hQ hV).puts 1 rfl (hF.cons (abo.eh.framed _ _ _)) (3+k) ((g:K));have hP:=(hS.Vy 0 rfl).1;rw[HK.out,O4 gs g (by have:=HK.out;omega),<-HK.out] at ej;have dV:=ej.perm (l':=Cell s 186 (QA (gs++[g]))::(gs++[g]).map λg=>abo.eh g [] 0) ((List.Perm.swap _ _ _).trans (List.Perm.cons _ (by rw[bI];exact (List.perm_append_singleton _ _).symm)));have wo:=(hj.trans (dM.dK H)).put (V:=λb=>(w:Nat)<=b) hP (3+k) ((g:K));have ky:=hB.grow H;have c0:=ky.cell (3+k);rw[Fy] at c0;have f0:=ky.frozen (3+k);clear hB Fy;obtain⟨w2,HW⟩:=az (w1.setCell ⟨s,3+k,none⟩ ((g:K)):X);rw[<-HW.out] at dV wo;have a4m:k+1<=4:=by have:=HK.out;omega
   go_wp2_with fail;refine⟨trivial,?_⟩;refine eU ?_;go_wp2_with fail;go_roundw;case rel=>exact⟨gs++[g],by rw[bd,<-HK.out];exact a4m,by rw[bd,<-HK.out];go_num,by rw[<-HW.out];exact dV,by rw[<-HW.out];exact wo⟩
   case measure=>simp[intOf];omega
  ·obtain⟨k,HK⟩:=az (gs.length:Nat)
   have h4:gs.length=4:=by omega
   obtain⟨g0,g1,g2,g3,rfl⟩:∃a b c d,gs=[a,b,c,d]:=by
    match gs,h4 with
    | [a,b,c,d],_=>exact⟨a,b,c,d,rfl⟩
   go_wp2;go_ret;obtain⟨_,U,hU,fS⟩:=hS;have Vx:dN (UC (Z none 0 0) []::Cell s 186 (bkC 0 (Z none 0 0) ⟨g0,g1,g2,g3⟩ (Z none 0 0))::[g0,g1,g2,g3].map λg=>abo.eh g [] 0) wr U:=⟨λ_=>False,U,UC.nil _ _,hU,λ_ h=>h.elim,λ_ h=>h,λ_ h=>h.elim⟩;exact⟨s,⟨g0,g1,g2,g3⟩,rfl,dN.wide _ wr U _ (λb hb=>fS b hb) (dN.perm (List.Perm.swap _ _ _) Vx),hj.below (B:=(w:Nat)) (λb hb=>hb) (bh _)⟩
theorem S8:(Tryz.prog.info? 37).map (λi=>(i.zero,i.size,i.bytes))=some (some (aZ #[(),(),()]),3,24):=by kernel_rfl
theorem YA:Elem W 81 37 3 24 (aZ #[(),(),()]):=⟨Tryz.underlying81,info_parts S8,rfl,by decide,by decide⟩
def UG(st:Nat)(z:Qs)(ep:Int)(l0:List abo.Ab)(k0:Int):dW:=λw V=>∃A c cu,E4 st z ep (Z A 0 c) [] l0 k0 cu w V
theorem UG.framed(st:Nat)(z:Qs)(ep:Int)(l0:List abo.Ab)(k0:Int):eu (UG st z ep l0 k0):=λw O V ⟨A,c,cu,h⟩ N=>⟨A,c,cu,E4.framed _ _ _ _ _ _ _ _ w O V h N⟩
open V
def ko(w O:X):Prop:=∃(q:Nat)(os:Array Obj),O=Sort.grow (w.drewN q) os
theorem ko.refl(w:X):ko w w:=⟨0,#[],by rw[Sort.grow_empty];rfl⟩
theorem ko.drew(w:X):ko w w.drew:=⟨1,#[],by rw[Sort.grow_empty];rfl⟩
theorem ko.alloc(w:X)(o:Obj):ko w (w.alloc o):=⟨0,#[o],by rw[Sort.alloc_eq_grow];rfl⟩
theorem ko.trans{a b c:X}(h:ko a b)(k:ko b c):ko a c:=by obtain⟨q,os,rfl⟩:=h;obtain⟨q',os',rfl⟩:=k;exact⟨q+q',os++os',by rw[show Sort.grow ((Sort.grow (a.drewN q) os).drewN q') os'=Sort.grow (Sort.grow ((a.drewN q).drewN q') os) os' from rfl,Sort.grow_grow,World.drewN_drewN]⟩
theorem ko.grow{a b:X}(h:ko a b):Grow a b:=by obtain⟨q,os,rfl⟩:=h;exact⟨rfl,rfl,rfl,by simp[Sort.grow,World.drewN],λk N=>by simp only[Sort.grow,World.drewN];exact Array.getElem?_append_left N⟩
def rh(a b:Int):Int:=if a<b then -1 else if b<a then 1 else 0
def Wr:List Int->Int
 | []=>0
 | x::l=>if x=0 then Wr l else x
theorem xP(w:X)(x:Int):dz W 294 #[J x] w λe O=>e=b5 (aY false)∧w=O:=by go_in;go_wp2;go_ret;exact⟨by simp,rfl⟩
theorem O7(w:X)(a b:Int):dz W 228 #[J a,J b] w λe O=>e=b5 (J (rh a b))∧w=O:=by
 unfold rh;by_cases I:a<b
 ·have d1:decide (a<b)=true:=aC I
  rw[aA I];go_in;go_wp2_with (go_at_call 294;refine (xP _ _).mono ?_;rintro e O ⟨rfl,rfl⟩);go_ret;exact⟨rfl,rfl⟩
 ·have d1:decide (a<b)=false:=aD I
  rw[aB I];by_cases G:b<a
  ·have d2:decide (b<a)=true:=aC G
   rw[aA G];go_in;go_wp2_with (go_at_call 294;refine (xP _ _).mono ?_;rintro e O ⟨rfl,rfl⟩);go_ret;exact⟨rfl,rfl⟩
  ·have d2:decide (b<a)=false:=aD G
   rw[aB G];go_in;go_wp2_with (go_at_call 294;refine (xP _ _).mono ?_;rintro e O ⟨rfl,rfl⟩);go_ret;exact⟨rfl,rfl⟩
theorem xQ(w:X)(x:Int):dz W 295 #[J x] w λe O=>e=b5 (aY false)∧w=O:=by go_in;go_wp2;go_ret;exact⟨by simp,rfl⟩
theorem O8(w:X)(a b:Int):dz W 229 #[J a,J b] w λe O=>e=b5 (J (rh a b))∧w=O:=by
 unfold rh;by_cases I:a<b
 ·have d1:decide (a<b)=true:=aC I
  rw[aA I];go_in;go_wp2_with (go_at_call 295;refine (xQ _ _).mono ?_;rintro e O ⟨rfl,rfl⟩);go_ret;exact⟨rfl,rfl⟩
 ·have d1:decide (a<b)=false:=aD I
  rw[aB I];by_cases G:b<a
  ·have d2:decide (b<a)=true:=aC G
   rw[aA G];go_in;go_wp2_with (go_at_call 295;refine (xQ _ _).mono ?_;rintro e O ⟨rfl,rfl⟩);go_ret;exact⟨rfl,rfl⟩
  ·have d2:decide (b<a)=false:=aD G
   rw[aB G];go_in;go_wp2_with (go_at_call 295;refine (xQ _ _).mono ?_;rintro e O ⟨rfl,rfl⟩);go_ret;exact⟨rfl,rfl⟩
theorem KX(w:X)(D:aV)(A:aU)(n c:Nat)(l:aN)(h:In w D 1 A n (l.map (Value.int .i64)))(hn:n<=1048576):dz W 227 #[Z A n c] w λe O=>e=b5 (J (Wr l))∧w=O:=by
 have rA:l.length=n:=by have:=h.1;simpa using this
 obtain⟨R,HR⟩:=az (Wr l:Int);rw[<-HR.out];go_in;go_wp2_with fail;go_loopw [8] (λi wr=>∃k:Nat,k<=n∧i=J k∧Wr (l.drop k)=R∧w=wr) (λi _=>n-(intOf i).toNat);case atStart=>exact⟨0,by omega,rfl,HR.out.symm,rfl⟩
 case round=>
  obtain⟨k,N,rfl,T,rfl⟩:=hrel;by_cases fS:k<n
  ·obtain⟨ad,u,rfl,_,hu,za⟩:=h.reads.at_ fS
   rw[List.getElem?_map,List.getElem?_eq_getElem ap] at hu;obtain rfl:=Option.some.inj hu;rw[bP ap,Wr] at T;generalize l[k]=z at za T;clear hu;by_cases hz:z=0
   ·subst hz
    rw[aA rfl] at T;have HR2:=Q T;clear T;go_wp2_with fail;go_roundw;case rel=>exact⟨k+1,by omega,by go_num,HR2.out,by trivial⟩
    case measure=>simp[intOf];omega
   ·rw[aB hz] at T
    subst T;have dz2:(z == 0)=false:=beq_eq_false_iff_ne.2 hz;go_wp2;go_ret;exact⟨rfl,rfl⟩
  ·obtain rfl:k=n:=by omega
   rw[cH ap] at T;have T:0=R:=T;subst T;go_wp2;go_ret;exact⟨rfl,rfl⟩
theorem O9(w:X)(u:K)(l:aN)(h:DY 1 l.length (l.map (Value.int .i64)) u w)(hn:l.length<=1048576):dz W 227 #[u] w λe O=>e=b5 (J (Wr l))∧ko w O:=by obtain⟨A,rfl,h⟩:=h;exact (KX w _ A _ _ l h hn).mono λe O ⟨I,G⟩=>⟨I,G▸ko.refl _⟩
theorem Gz{o:dE}{ρ:Operand->K}{x y z:Operand}{a b c:Int}(ho:o.op=.buildSlice 22 3 #[(0,x),(1,y),(2,z)])(Y:ρ x=J a)(hy:ρ y=J b)(hz:ρ z=J c):gE W (λu O=>ko w O∧DY 1 3 [J a,J b,J c] u O) ((execOp ρ o).run W w):=by obtain⟨dst,op,ty,pos,after,guard⟩:=o;simp only at ho;subst ho;exact gv (u := Z (some ⟨(w:Nat),0,none⟩) 3 3) (w:=w.alloc (.cells #[J a,J b,J c] 3)) (by go_simp) ⟨ko.alloc _ _,xN (eJ.made w _ _) rfl⟩
theorem Oa(w:X)(a b:Int):dz W 228 #[J a,J b] w λe O=>e=b5 (J (rh a b))∧ko w O:=(O7 w a b).mono λe O ⟨I,G⟩=>⟨I,by subst G;exact ko.refl _⟩
theorem Ws(w:X)(a b:Int):dz W 229 #[J a,J b] w λe O=>e=b5 (J (rh a b))∧ko w O:=(O8 w a b).mono λe O ⟨I,G⟩=>⟨I,by subst G;exact ko.refl _⟩
def E5(x y:Int×Int×Int):Int:=Wr [rh x.1 y.1,rh x.2.1 y.2.1,rh x.2.2 y.2.2]
theorem KY(x y:Int×Int×Int)(w:X):dz W 167 #[aZ #[J x.1,J x.2.1,J x.2.2],aZ #[J y.1,J y.2.1,J y.2.2]] w λe O=>e=b5 (J (E5 x y))∧∃q os',O=Sort.grow (w.drewN q) os':=by
 have g1:=ko.alloc w (.cells #[J x.1,J x.2.1,J x.2.2] 37);have b1:=eJ.made w 37 #[J x.1,J x.2.1,J x.2.2];obtain⟨xa,HX⟩:∃y:Nat,Hid (y=(w:Nat)):=⟨_,rfl⟩;obtain⟨wa,lZ⟩:=az (w.alloc (.cells #[J x.1,J x.2.1,J x.2.2] 37):X);have hz0:(wa:Nat)=xa+1:=by rw[lZ.out,HX.out];simp
 rw[<-lZ.out] at g1 b1;rw[<-HX.out] at b1;have g2:=ko.alloc wa (.cells #[J y.1,J y.2.1,J y.2.2] 37);have b2:=eJ.made wa 37 #[J y.1,J y.2.1,J y.2.2];obtain⟨ya,HY⟩:∃y:Nat,Hid (y=xa+1):=⟨_,rfl⟩;obtain⟨wb,HB_⟩:=az (wa.alloc (.cells #[J y.1,J y.2.1,J y.2.2] 37):X);rw[hz0,<-HY.out] at b2;rw[<-HB_.out] at g2 b2;have b1:=b1.grow g2.grow;go_in;go_wp2_with fail;rw[<-lZ.out,<-HX.out,<-HY.out,<-HB_.out];refine dJ rfl ?_;have gd:=ko.drew wb;refine gi (ko wb) 18 rfl ?_;refine held 0 rfl gd (λw1 E R T=>by have c0:=(b1.grow E.grow).cell 0;have c1:=(b1.grow E.grow).cell 1;have c2:=(b1.grow E.grow).cell 2;have c3:=(b2.grow E.grow).cell 0;have c4:=(b2.grow E.grow).cell 1;have c5:=(b2.grow E.grow).cell 2;go_simp;exact T) ?_;refine held 1 rfl gd (λw1 E R T=>by have c0:=(b1.grow E.grow).cell 0;have c1:=(b1.grow E.grow).cell 1;have c2:=(b1.grow E.grow).cell 2;have c3:=(b2.grow E.grow).cell 0;have c4:=(b2.grow E.grow).cell 1;have c5:=(b2.grow E.grow).cell 2;go_simp;exact T) ?_;refine held 2 rfl gd (λw1 E R T=>by have c0:=(b1.grow E.grow).cell 0;have c1:=(b1.grow E.grow).cell 1;have c2:=(b1.grow E.grow).cell 2;have c3:=(b2.grow E.grow).cell 0;have c4:=(b2.grow E.grow).cell 1;have c5:=(b2.grow E.grow).cell 2;go_simp;exact T) ?_;refine held 3 rfl gd (λw1 E R T=>by have c0:=(b1.grow E.grow).cell 0;have c1:=(b1.grow E.grow).cell 1;have c2:=(b1.grow E.grow).cell 2;have c3:=(b2.grow E.grow).cell 0;have c4:=(b2.grow E.grow).cell 1;have c5:=(b2.grow E.grow).cell 2;go_simp;exact T) ?_;refine held 5 rfl gd (λw1 E R T=>by have c0:=(b1.grow E.grow).cell 0;have c1:=(b1.grow E.grow).cell 1;have c2:=(b1.grow E.grow).cell 2;have c3:=(b2.grow E.grow).cell 0;have c4:=(b2.grow E.grow).cell 1;have c5:=(b2.grow E.grow).cell 2;go_simp;exact T) ?_;refine held 6 rfl gd (λw1 E R T=>by have c0:=(b1.grow E.grow).cell 0;have c1:=(b1.grow E.grow).cell 1;have c2:=(b1.grow E.grow).cell 2;have c3:=(b2.grow E.grow).cell 0;have c4:=(b2.grow E.grow).cell 1;have c5:=(b2.grow E.grow).cell 2;go_simp;exact T) ?_;refine held 7 rfl gd (λw1 E R T=>by have c0:=(b1.grow E.grow).cell 0;have c1:=(b1.grow E.grow).cell 1;have c2:=(b1.grow E.grow).cell 2;have c3:=(b2.grow E.grow).cell 0;have c4:=(b2.grow E.grow).cell 1;have c5:=(b2.grow E.grow).cell 2;go_simp;exact T) ?_;refine held 8 rfl gd (λw1 E R T=>by have c0:=(b1.grow E.grow).cell 0;have c1:=(b1.grow E.grow).cell 1;have c2:=(b1.grow E.grow).cell 2;have c3:=(b2.grow E.grow).cell 0;have c4:=(b2.grow E.grow).cell 1;have c5:=(b2.grow E.grow).cell 2;go_simp;exact T) ?_;refine held 10 rfl gd (λw1 E R T=>by have c0:=(b1.grow E.grow).cell 0;have c1:=(b1.grow E.grow).cell 1;have c2:=(b1.grow E.grow).cell 2;have c3:=(b2.grow E.grow).cell 0;have c4:=(b2.grow E.grow).cell 1;have c5:=(b2.grow E.grow).cell 2;go_simp;exact T) ?_;refine held 11 rfl gd (λw1 E R T=>by have c0:=(b1.grow E.grow).cell 0;have c1:=(b1.grow E.grow).cell 1;have c2:=(b1.grow E.grow).cell 2;have c3:=(b2.grow E.grow).cell 0;have c4:=(b2.grow E.grow).cell 1;have c5:=(b2.grow E.grow).cell 2;go_simp;exact T) ?_;refine held 12 rfl gd (λw1 E R T=>by have c0:=(b1.grow E.grow).cell 0;have c1:=(b1.grow E.grow).cell 1;have c2:=(b1.grow E.grow).cell 2;have c3:=(b2.grow E.grow).cell 0;have c4:=(b2.grow E.grow).cell 1;have c5:=(b2.grow E.grow).cell 2;go_simp;exact T) ?_;refine held 13 rfl gd (λw1 E R T=>by have c0:=(b1.grow E.grow).cell 0;have c1:=(b1.grow E.grow).cell 1;have c2:=(b1.grow E.grow).cell 2;have c3:=(b2.grow E.grow).cell 0;have c4:=(b2.grow E.grow).cell 1;have c5:=(b2.grow E.grow).cell 2;go_simp;exact T) ?_;refine dY 4 rfl ?_;go_wp2_with fail;refine (Oa _ x.1 y.1).mono ?_;rintro en u1 ⟨rfl,hq⟩;have q1:=gd.trans hq;clear hq;go_wp2_with fail;refine⟨q1,?_⟩;refine dY 9 rfl ?_;go_wp2_with fail;refine (Oa _ x.2.1 y.2.1).mono ?_;rintro en u2 ⟨rfl,hq⟩;have q2:=q1.trans hq;clear hq;go_wp2_with fail;refine⟨q2,?_⟩;refine dY 14 rfl ?_;go_wp2_with fail;refine (Ws _ x.2.2 y.2.2).mono ?_;rintro en u3 ⟨rfl,hq⟩;have q3:=q2.trans hq;clear hq;go_wp2_with fail;refine⟨q3,?_⟩;refine dY 15 rfl ?_;refine fV rfl (Gz (x := .tmp 9) (y := .tmp 14) (z := .tmp 19) rfl rfl rfl rfl) ?_;rintro v20 u4 ⟨q4,hb⟩;replace q4:=q3.trans q4;go_wp2_with fail;refine⟨q4,?_⟩;refine dY 16 rfl ?_;go_wp2_with fail;refine (O9 u4 v20 [rh x.1 y.1,rh x.2.1 y.2.1,rh x.2.2 y.2.2] hb (by simp)).mono ?_;rintro en w1 ⟨rfl,hq⟩;have H:=q4.trans hq;clear hq;go_wp2_with fail;refine⟨H,?_⟩;refine held 17 rfl H (λw1 E=>aM) ?_;refine eU ?_;go_wp2;go_ret;exact⟨rfl,(g1.trans g2).trans H⟩
def GA:Go.Shelf.Ren:=⟨λ|6=>166|15=>192|14=>226|28=>254|29=>255|20=>286|21=>287|22=>288|23=>289|24=>290|25=>291|26=>292|27=>293|46=>338|47=>313|48=>314|49=>339|50=>340|57=>372|n=>n,λ|22=>81|24=>37|25=>261|3=>3|39=>62|0=>0|53=>61|55=>42|4=>4|46=>340|45=>339|50=>344|5=>5|9=>9|66=>390|70=>393|76=>417|77=>418|n=>n,λ|n=>n⟩
theorem Ob:Go.Proofs.SlLaysF0.n6 W GA:={
 mixed:=by kernel_rfl
 f6:=⟨Tryz.f166.name,by decide,Tryz.func166.trans (congrArg some aw)⟩
 f14:=⟨Tryz.f226.name,by decide,Tryz.func226.trans (congrArg some aw)⟩
 f15:=Tryz.func192.trans (congrArg some aw)
 f20:=⟨Tryz.f286.name,by decide,Tryz.func286.trans (congrArg some aw)⟩
 f21:=⟨Tryz.f287.name,by decide,Tryz.func287.trans (congrArg some aw)⟩
 f22:=⟨Tryz.f288.name,by decide,Tryz.func288.trans (congrArg some aw)⟩
 f23:=⟨Tryz.f289.name,by decide,Tryz.func289.trans (congrArg some aw)⟩
 f24:=⟨Tryz.f290.name,by decide,Tryz.func290.trans (congrArg some aw)⟩
 f25:=⟨Tryz.f291.name,by decide,Tryz.func291.trans (congrArg some aw)⟩
 f26:=⟨Tryz.f292.name,by decide,Tryz.func292.trans (congrArg some aw)⟩
 f27:=⟨Tryz.f293.name,by decide,Tryz.func293.trans (congrArg some aw)⟩
 f28:=Tryz.func254.trans (congrArg some aw)
 f29:=Tryz.func255.trans (congrArg some aw)
 f46:=⟨Tryz.f338.name,by decide,Tryz.func338.trans (congrArg some aw)⟩
 f47:=Tryz.func313.trans (congrArg some aw)
 f48:=Tryz.func314.trans (congrArg some aw)
 f49:=⟨Tryz.f339.name,by decide,Tryz.func339.trans (congrArg some aw)⟩
 f50:=⟨Tryz.f340.name,by decide,Tryz.func340.trans (congrArg some aw)⟩
 f57:=⟨Tryz.f372.name,by decide,Tryz.func372.trans (congrArg some aw)⟩
 t0:=Tryz.underlying0
 a0:=Tryz.isAgg0
 z0:=Tryz.sizeOf0
 v0:=Tryz.zeroValue0
 t3:=dp
 a3:=Tryz.isAgg3
 z3:=Tryz.sizeOf3
 v3:=Tryz.zeroValue3
 t4:=Tryz.underlying4
 a4:=Tryz.isAgg4
 z4:=Tryz.sizeOf4
 v4:=Tryz.zeroValue4
 t5:=dm
 a5:=Tryz.isAgg5
 z5:=Tryz.sizeOf5
 v5:=Tryz.zeroValue5
 t9:=cW
 a9:=Tryz.isAgg9
 z9:=Tryz.sizeOf9
 v9:=Tryz.zeroValue9
 t22:=Tryz.underlying81
 a22:=Tryz.isAgg81
 z22:=Tryz.sizeOf81
 v22:=Tryz.zeroValue81
 t25:=Tryz.underlying261
 a25:=Tryz.isAgg261
 z25:=Tryz.sizeOf261
 v25:=Tryz.zeroValue261
 t39:=Tryz.underlying62
 a39:=Tryz.isAgg62
 z39:=Tryz.sizeOf62
 v39:=Tryz.zeroValue62
 t45:=Tryz.underlying339
 a45:=Tryz.isAgg339
 z45:=Tryz.sizeOf339
 v45:=Tryz.zeroValue339
 t46:=Tryz.underlying340
 a46:=Tryz.isAgg340
 z46:=Tryz.sizeOf340
 v46:=Tryz.zeroValue340
 t50:=Tryz.underlying344
 a50:=Tryz.isAgg344
 z50:=Tryz.sizeOf344
 v50:=Tryz.zeroValue344
 t53:=Tryz.underlying61
 a53:=Tryz.isAgg61
 z53:=Tryz.sizeOf61
 v53:=Tryz.zeroValue61
 t55:=Tryz.underlying42
 a55:=Tryz.isAgg42
 z55:=Tryz.sizeOf42
 v55:=Tryz.zeroValue42
 t66:=Tryz.underlying390
 a66:=Tryz.isAgg390
 z66:=Tryz.sizeOf390
 v66:=Tryz.zeroValue390
 t70:=Tryz.underlying393
 a70:=Tryz.isAgg393
 z70:=Tryz.sizeOf393
 v70:=Tryz.zeroValue393
 t76:=Tryz.underlying417
 a76:=Tryz.isAgg417
 z76:=Tryz.sizeOf417
 v76:=Tryz.zeroValue417
 t77:=Tryz.underlying418
 a77:=Tryz.isAgg418
 z77:=Tryz.sizeOf418
 v77:=Tryz.zeroValue418 }
def iR(x:Int×Int×Int):List K:=[J x.1,J x.2.1,J x.2.2]
def fG(l:List (Int×Int×Int)):List K:=l.flatMap iR
theorem jG(x:Int×Int×Int):(iR x).length=3:=rfl
theorem sa(l:List (Int×Int×Int)):(fG l).length=l.length*3:=ix iR 3 jG l
theorem uF(l:List (Int×Int×Int)):∀u∈fG l,u.oneCell'=true:=λu hu=>by obtain⟨x,_,Y⟩:=List.mem_flatMap.1 hu;simp only[iR,cI,cF,or_false] at Y;rcases Y with rfl|rfl|rfl<;>rfl
def CI(x y:Int×Int×Int):Bool:=decide (x.1<y.1)||(decide (x.1=y.1)&&(decide (x.2.1<y.2.1)||(decide (x.2.1=y.2.1)&&decide (x.2.2<y.2.2))))
theorem tq(x y:Int×Int×Int):CI x y=true↔(x.1<y.1∨(x.1=y.1∧(x.2.1<y.2.1∨(x.2.1=y.2.1∧x.2.2<y.2.2)))):=by simp[CI]
theorem xR(x y:Int×Int×Int):CI x y=false↔¬ (x.1<y.1∨(x.1=y.1∧(x.2.1<y.2.1∨(x.2.1=y.2.1∧x.2.2<y.2.2)))):=by rw[<-tq];simp
theorem li(a b:Int):(a<b∧rh a b=-1)∨(b<a∧rh a b=1)∨(a=b∧rh a b=0):=by
 unfold rh;by_cases I:a<b;·exact .inl ⟨I,aA I⟩
 ·by_cases G:b<a
  ·exact .inr (.inl ⟨G,by rw[aB I,aA G]⟩)
  ·exact .inr (.inr ⟨by omega,by rw[aB I,aB G]⟩)
theorem we(x y:Int×Int×Int):Go.Proofs.ltOf E5 x y=CI x y:=by
 unfold Go.Proofs.ltOf E5;cases hl:CI x y with
 | true=>
   rw[tq] at hl;rcases li x.1 y.1 with ⟨I,e1⟩|⟨I,e1⟩|⟨I,e1⟩<;>rcases li x.2.1 y.2.1 with ⟨G,e2⟩|⟨G,e2⟩|⟨G,e2⟩<;>rcases li x.2.2 y.2.2 with ⟨L,e3⟩|⟨L,e3⟩|⟨L,e3⟩<;>rw[e1,e2,e3]<;>first|decide|(exfalso;omega)
 | false=>
   rw[xR] at hl;rcases li x.1 y.1 with ⟨I,e1⟩|⟨I,e1⟩|⟨I,e1⟩<;>rcases li x.2.1 y.2.1 with ⟨G,e2⟩|⟨G,e2⟩|⟨G,e2⟩<;>rcases li x.2.2 y.2.2 with ⟨L,e3⟩|⟨L,e3⟩|⟨L,e3⟩<;>rw[e1,e2,e3]<;>first|decide|(exfalso;omega)
theorem ZP:Sort.SWO (Go.Proofs.ltOf E5) where
 irrefl x:=by rw[we,xR];omega
 trans x y z h k:=by rw[we] at *;rw[tq] at *;omega
 ntrans x y z h k:=by rw[we] at *;rw[xR] at *;omega
theorem xS(l:List (Int×Int×Int))(j:Nat)(hj:j<l.length*3):(fG l)[j]?=some (Sort.flatK iR 3 l.toArray)[j]!:=by
 have h:=flat_get iR 3 jG l (j / 3) (j % 3) ap (Nat.mod_lt _ ap);rw[show j / 3*3+j % 3=j by omega] at h;unfold fG;rw[h,Sort.get_flatK iR 3 l.toArray j (by simpa using hj)];have G:j / 3<l.length:=by omega
 have L:l.toArray[j / 3]! = l[j / 3]:=by simp[G]
 rw[L];have h4:j % 3<(iR l[j / 3]).length:=by rw[jG];exact Nat.mod_lt _ ap
 rw[List.getElem?_eq_getElem h4];simp[h4]
theorem KZ(w:X)(V:aV)(v:K)(l:List (Int×Int×Int))(T:Row w V 37 3 v l.length (fG l))(hl:l.length<4611686018427387904):dz W 166 #[v,.func (.func 167) #[] #[]] w λe O=>e=b5 (a_ #[])∧∃l':List (Int×Int×Int),l'.Perm l∧(∀i j(hi:i<l'.length)(hj:j<l'.length),i<j->CI l'[j] l'[i]=false)∧Row O V 37 3 v l'.length (fG l')∧dM V w O:=by
 obtain⟨fj,⟨rfl,h0⟩|⟨g,cap,cur,rfl,hV,H,kM,iO,jQ,j9⟩⟩:=T
 ·have hn:l=[]:=bu h0
  subst hn;refine (Go.Proofs.AnyF.slices_SortFunc_none Ob none 0 _ w).mono λe O ⟨I,G⟩=>⟨I,[],List.Perm.refl _,λi j hi=>absurd hi (by simp),⟨rfl,.inl ⟨rfl,rfl⟩⟩,?_⟩;rw[G];exact dM.dK (Grow.refl _)
 have z8:g<(w:Nat):=(Array.getElem?_eq_some_iff.1 H).1;have hH:Sort.HoldsK iR 3 w g 0 l.toArray:=λj hj=>by
  rw[Sort.size_flatK] at hj;have lR:j<l.length*3:=by simpa using hj
  have E:=xS l j lR;rw[<-j9,List.getElem?_take_of_lt lR,Array.getElem?_toList] at E;refine⟨?_,?_⟩
  ·unfold World.cell?
   simp only[H,cJ];exact E
  ·unfold World.frozen?
   simp only[H];simp
 have eg:∀args w,(callFunc 167 args).run W w=.ok (.enter 167 args) w:=λargs w=>by go_simp
 have hcon:=Go.Proofs.AnyQ.slices_SortFunc Ob 3 Tryz.isAgg37 Tryz.sizeOf37 iR jG (λx v hv=>by simp only[iR,cI,cF,or_false] at hv;rcases hv with rfl|rfl|rfl<;>rfl) E5 ZP 167 #[] g 0 cap l.toArray w eg (λm os dk _ x y=>KY x y _) hH z8 (by simpa using hl);change dz W 166 _ _ _ at hcon;rw[cy] at hcon;refine hcon.mono ?_;rintro e O ⟨he,d',n,os,hp,hs,rfl⟩;obtain⟨l',rfl⟩:∃l':List (Int×Int×Int),d'=l'.toArray:=⟨d'.toList,by simp⟩;have wu:l'.length=l.length:=by have:=hp.1;simpa using this
 have iZ:=Go.Proofs.size_sortWorldK_c iR 3 w g 0 n l'.toArray os;have Iu:(Go.Proofs.sortWorldK iR 3 w g 0 n l'.toArray os).heap[g]?=some (.cells (Sort.putCells id 0 (Sort.flatK iR 3 l'.toArray) cur) 37 (0,0)):=by show ((w.heap.modify g (Sort.onCells (Sort.putCells id 0 (Sort.flatK iR 3 l'.toArray))))++os)[g]?=_;rw[Array.getElem?_append_left (by simpa using z8),Array.getElem?_modify,aA rfl,H];rfl
 have Fb:(Sort.putCells id 0 (Sort.flatK iR 3 l'.toArray) cur).size=cur.size:=by simp[Sort.putCells]
 refine⟨he,l',?_,λi j hi hj wJ=>?_,⟨sa l',.inr ⟨g,cap,_,by rw[wu],hV,Iu,by omega,iO,by rw[Fb,jQ],?_⟩⟩,⟨rfl,rfl,rfl,iZ,λb hb Y2=>?_⟩⟩
 ·have:=hp.2.2
  simp only[List.extract_toArray,List.extract_eq_take_drop,List.drop_zero,Nat.sub_zero] at this;rwa [bH ap,bH ap] at this
 ·have:=hs i j (bo _) wJ ap
  rw[we] at this;simpa [hi,hj] using this
 ·apply List.ext_getElem?
  intro j;by_cases hj:j<l'.length*3
  ·rw[List.getElem?_take_of_lt hj,Array.getElem?_toList,xS l' j hj]
   have hjc:j<cur.size:=by rw[jQ];exact bw hj (cK 3 ap)
   simp only[Sort.putCells,Array.getElem?_mapIdx,Array.getElem?_eq_getElem hjc,df,bo,true_and,cJ,Sort.size_flatK,cy,hj,if_true,Nat.sub_zero,id_eq]
  ·rw[List.getElem?_eq_none (by rw[bn];omega),List.getElem?_eq_none (by rw[sa];omega)]
 ·have vn:b<(w.heap.modify g (Sort.onCells (Sort.putCells id 0 (Sort.flatK iR 3 l'.toArray)))).size:=by simpa using hb
  show ((w.heap.modify g (Sort.onCells (Sort.putCells id 0 (Sort.flatK iR 3 l'.toArray))))++os)[b]?=w.heap[b]?;rw[Array.getElem?_append_left vn,Array.getElem?_modify,aB (λe=>Y2 (by rw[<-e];exact hV))]
theorem K_(w:X)(n:Nat)(hn:n<=1048576):dz W 225 #[ay,J n] w λe O=>∃v,e=b5 v∧Row O (λb=>(w:Nat)<=b∧b<(O:Nat)) 37 3 v 0 []∧Grow w O:=by
 obtain⟨i,hi,hz,hs,hb⟩:=YA.info;have wv:IntKind.i64.wrap (n:Int)=(n:Int):=by rw[IntKind.wrap_i64];omega
 have sC:wrap64 (n:Int)=(n:Int):=by unfold wrap64;omega
 by_cases h0:n=0
 ·subst h0
  go_in;go_wp2;go_ret;exact⟨_,rfl,Row.nil,Grow.refl _⟩
 go_in;go_wp2_with (at_builtin;refine Lib.wpList_append_run _ rfl _ _ _ _ rfl _ _ rfl rfl _ _ (Lib.run_append_nil_zeros _ 81 3 _ 37 i (aZ #[(),(),()]) .i64 .i64 Tryz.underlying81 dp hi hz n ap ap ap (by rw[hb];omega)) ?_);have QG:=grownCap_ge w n 0 37;have mn:grownCap w n 0 37<=dG:=grownCap_le_maxLen w n 0 37 (by unfold dG;omega);generalize grownCap w n 0 37=cap at QG mn;have jQ:(bM #[Value.int .i64 0,(),()] n++bM #[Value.int .i64 0,(),()] (cap-n)).size=cap*3:=by rw[Array.size_append,size_zeroCells,size_zeroCells,show (#[Value.int .i64 0,(),()]:Array K).size=3 from rfl];omega
 generalize bM #[Value.int .i64 0,(),()] n++bM #[Value.int .i64 0,(),()] (cap-n)=cur at jQ;go_wp2;go_ret;refine⟨_,rfl,⟨rfl,.inr ⟨(w:Nat),cap,cur,rfl,⟨bh _,by simp⟩,?_,bo _,mn,jQ,by simp⟩⟩,Grow.drew ((Below.refl _ _).alloc (bh _) _)⟩;exact heap_alloc_new w _
theorem L3(w:X)(A:aU)(n c:Nat)(E:n<=c):dz W 168 #[Z A n c] w λe O=>e=b5 (Z A n n)∧w=O:=by
 go_in;cases A with
 | none=>
   go_wp2;go_ret;exact⟨rfl,rfl⟩
 | some a=>
   go_wp2;go_ret;exact⟨rfl,rfl⟩
set_option maxRecDepth 100000
set_option maxHeartbeats 1000000
theorem E6(w:X)(b:Nat)(A A2:aU)(c c2:Nat)(l m:List (Int×Int×Int))(hB:eJ w b 81 #[Z A l.length c,Z A2 m.length c2])(D D2:aV)(hI:In w D 3 A l.length (fG l))(It:In w D2 3 A2 m.length (fG m))(hn:l.length+m.length<=1048576):dz W 165 #[Z (some ⟨b,0,none⟩) 2 2] w λe O=>∃v,e=b5 v∧Row O (λb=>(w:Nat)<=b∧b<(O:Nat)) 37 3 v (l.length+m.length) (fG l++fG m)∧Grow w O:=by
 have e0:=hB.cell 0;have e1:=hB.cell 1;obtain⟨n,HN⟩:=az (l.length:Nat);obtain⟨k,HK⟩:=az (m.length:Nat);have YQ:=HN.out;have Iq:=HK.out;rw[<-YQ] at e0 hI hn hB ⊢;rw[<-Iq] at e1 It hn hB ⊢;have wv:IntKind.i64.wrap (n:Int)=(n:Int):=by rw[IntKind.wrap_i64];omega
 have sC:wrap64 (n:Int)=(n:Int):=by unfold wrap64;omega
 have Bg:IntKind.i64.wrap ((n:Int)+(k:Int))=((n+k:Nat):Int):=by rw[IntKind.wrap_i64];omega
 have hw4:wrap64 ((n:Int)+(k:Int))=((n+k:Nat):Int):=by unfold wrap64;omega
 have a5X:decide ((n:Int)<0)=false:=aD ap;have hG:=K_ w (n+k) hn;clear YQ Iq;go_in;go_wp2_with fail;go_loopw [3,11] (λs i wr=>((s=J 0∧i=J 0)∨(s=J n∧i=J 1)∨(s=J ((n+k:Nat):Int)∧i=J 2))∧w=wr) (λ_ i _=>2-(intOf i).toNat);case atStart=>exact⟨.inl ⟨rfl,rfl⟩,rfl⟩
 case round=>
  obtain⟨hsi,rfl⟩:=hrel;rcases hsi with ⟨rfl,rfl⟩|⟨rfl,rfl⟩|⟨rfl,rfl⟩
  ·go_wp2_with fail
   go_roundw;case rel=>exact⟨.inr (.inl ⟨by first|rfl|simp[wv]|simp[sC],rfl⟩),by trivial⟩
   case measure=>simp[intOf]
  ·go_wp2_with fail
   go_roundw;case rel=>exact⟨.inr (.inr ⟨by first|rfl|simp[Bg]|simp[hw4],rfl⟩),by trivial⟩
   case measure=>simp[intOf]
  ·go_wp2_with fail
   refine hG.mono ?_;rintro e w1 ⟨v1,rfl,lT,eD⟩;go_wp2_with fail;go_loopw [6,27] (λv i wr=>((i=J 0∧Row wr (λb=>(w:Nat)<=b∧b<(wr:Nat)) 37 3 v 0 [])∨(i=J 1∧Row wr (λb=>(w:Nat)<=b∧b<(wr:Nat)) 37 3 v n (fG l))∨(i=J 2∧Row wr (λb=>(w:Nat)<=b∧b<(wr:Nat)) 37 3 v (n+k) (fG l++fG m)))∧Grow w wr) (λ_ i _=>2-(intOf i).toNat);case atStart=>exact⟨.inl ⟨rfl,lT⟩,eD⟩
   case round=>
    obtain⟨hsi,gP⟩:=hrel;have e0:=(hB.grow gP).cell 0;have e1:=(hB.grow gP).cell 1;have Yf:=gP.size;rcases hsi with ⟨rfl,T⟩|⟨rfl,T⟩|⟨rfl,T⟩
    ·go_wp2_with (at_builtin;refine stay ?_)
     refine dI ?_;refine wW YA _ rfl (.tmp 31) (.tmp 32) rfl _ 0 [] rfl T _ A n c (fG l) rfl (hI.grow gP).reads (uF l) ap ?_;intro v2 w2 gS k7;have fk:Grow w w2:=Below.trans gP (k7.below (B:=(w:Nat)) (λb hb=>hb.1) Yf);have gS:=gS.mono (V':=(λb=>(w:Nat)<=b∧b<(w2:Nat))) λb hb=>hb.elim (λh=>⟨h.1,bw h.2 k7.size⟩) λh=>⟨bB Yf h.1,h.2⟩;simp only[cJ,ch] at gS;go_wp2_with fail;go_roundw;case rel=>exact⟨.inr (.inl ⟨rfl,gS⟩),fk⟩
     case measure=>simp[intOf]
    ·go_wp2_with (at_builtin;refine stay ?_)
     refine dI ?_;refine wW YA _ rfl (.tmp 31) (.tmp 32) rfl _ n (fG l) rfl T _ A2 k c2 (fG m) rfl (It.grow gP).reads (uF m) ap ?_;intro v2 w2 gS k7;have fk:Grow w w2:=Below.trans gP (k7.below (B:=(w:Nat)) (λb hb=>hb.1) Yf);have gS:=gS.mono (V':=(λb=>(w:Nat)<=b∧b<(w2:Nat))) λb hb=>hb.elim (λh=>⟨h.1,bw h.2 k7.size⟩) λh=>⟨bB Yf h.1,h.2⟩;go_wp2_with fail;go_roundw;case rel=>exact⟨.inr (.inr ⟨rfl,gS⟩),fk⟩
     case measure=>simp[intOf]
    ·go_wp2_with fail
     go_ret;exact⟨_,rfl,T,gP⟩
def dd:Int×Int×Int->List (Int×Int×Int)->List (Int×Int×Int)
 | _,[]=>[]
 | p,x::l=>if x=p then dd x l else x::dd x l
def Wt:List (Int×Int×Int)->List (Int×Int×Int)
 | []=>[]
 | x::l=>x::dd x l
set_option maxRecDepth 100000
set_option maxHeartbeats 1000000
abbrev I3:=Int×Int×Int
theorem L4{l:List I3}(h:l.length<2):Wt l=l:=by
 match l,h with
 | [],_=>rfl
 | [x],_=>rfl
theorem wh{M:List I3}(hB:eJ w g 37 cur)(ht:cur.toList.take (M.length*3)=fG M)(N:k<M.length):w.cell? ⟨g,k*3,none⟩=some (J M[k].1)∧w.cell? ⟨g,k*3+1,none⟩=some (J M[k].2.1)∧w.cell? ⟨g,k*3+2,none⟩=some (J M[k].2.2):=by
 have h:∀j,j<3->w.cell? ⟨g,k*3+j,none⟩=(iR M[k])[j]?:=λj hj=>by rw[hB.cell,<-Array.getElem?_toList,<-List.getElem?_take_of_lt (show k*3+j<M.length*3 by omega),ht];unfold fG;rw[flat_get iR 3 jG M k j N hj]
 exact⟨h 0 ap,h 1 ap,h 2 ap⟩
theorem GC(M:List I3)(N:k<M.length)(x:I3):fG (M.set k x)=(fG M).take (k*3)++iR x++(fG M).drop (k*3+3):=by rw[List.set_eq_take_append_cons_drop,aA N];unfold fG;rw[show k*3+3=(k+1)*3 by omega,ki iR 3 jG,ob iR 3 jG,bL,bJ,bp]
theorem ZQ{α:Type}{p q r:Prop}[Decidable p][Decidable q][Decidable r](h:¬ (p∧q∧r))(a b:α):(if p then if q then if r then a else b else b else b)=b:=by
 split
 ·split
  ·split
   ·next I G L=>exact absurd ⟨I,G,L⟩ h
   ·rfl
  ·rfl
 ·rfl
theorem E7{α:Type}(a x:List α)(i m:Nat)(h:i+x.length<=m)(ha:i<=a.length):(a.take i++x++a.drop (i+x.length)).take m=(a.take m).take i++x++(a.take m).drop (i+x.length):=by
 have hl:(a.take i++x).length=i+x.length:=by rw[bd,bn,cz ha]
 rw[List.take_append,hl,bH ap,List.take_take,cz ap,List.drop_take]
theorem Jf{V:aV}{n cap:Nat}{M:List I3}(hV:V g)(hB:eJ w g 37 cur)(hs:cur.size=cap*3)(ht:cur.toList.take (n*3)=fG M)(hM:M.length=n)(I:n<=cap)(G:cap<=dG):Row w V 37 3 (Z (some ⟨g,0,none⟩) n cap) n (fG M):=⟨by rw[sa,hM],.inr ⟨g,cap,cur,rfl,hV,hB,I,G,hs,ht⟩⟩
theorem C0(w:X)(V:aV)(v:K)(l:List I3)(T:Row w V 37 3 v l.length (fG l))(hn:l.length<=1048576):dz W 169 #[v] w λe O=>∃v',e=b5 v'∧Row O V 37 3 v' (Wt l).length (fG (Wt l))∧dM V w O:=by
 obtain⟨n,HN⟩:=az (l.length:Nat);by_cases G:n<2
 ·have hs:=L4 (l:=l) (by rw[<-HN.out];exact G)
  obtain⟨A,c,rfl,hI,E,hm⟩:=T.jL;rw[hs];generalize fG l=xs at T ⊢;rw[<-HN.out] at T hn ⊢;have d1:decide ((n:Int)<2)=true:=aC ap;go_in;go_wp2;go_ret;exact⟨_,rfl,T,dM.dK (Grow.refl _)⟩
 rw[<-HN.out] at T hn;obtain⟨hl,h0|⟨g,cap,cur,rfl,hV,H,kM,iO,jQ,j9⟩⟩:=T;·omega
 have d1:decide ((n:Int)<2)=false:=aD ap;have uW:eJ w g 37 cur:=H;obtain⟨f,HF⟩:=az (Wt l);rw[<-HF.out];clear hl;go_in;go_wp2_with fail;clear d1;go_loopw [3] (λi wr=>∃k:Nat,1<=k∧k<=n∧i=J k∧Hid (f=l.take k++dd (l.getD (k-1) (0,0,0)) (l.drop k))∧Grow w wr) (λi _=>n-(intOf i).toNat);case atStart=>exact⟨1,by omega,by omega,rfl,Q (by
  rw[HF.out];match l,HN.out with
  | [],h=>simp at h;omega
  | x::l,_=>rfl),Grow.refl _⟩
 case round=>
  obtain⟨k,iP,oL,rfl,Hf,gP⟩:=hrel;have Qk:=uW.grow gP;by_cases fS:k<n
  ·have Iq:k<l.length:=by rw[<-HN.out];exact fS
   have TT:k-1<l.length:=by omega
   have S9:=j9;rw[HN.out] at S9;obtain⟨x0,x1,x2⟩:=wh Qk S9 Iq;obtain⟨y0,y1,y2⟩:=wh Qk S9 TT;clear S9;obtain⟨x,HX⟩:=az (l[k]);obtain⟨y,HY⟩:=az (l[k-1]);rw[<-HX.out] at x0 x1 x2;rw[<-HY.out] at y0 y1 y2;obtain⟨q,HQ⟩:=az (k-1:Nat);have zd:IntKind.i64.wrap ((k:Int)-1)=((q:Nat):Int):=by rw[HQ.out,IntKind.wrap_i64];omega
   rw[<-HQ.out] at y0 y1 y2;have RV:q<n:=by have:=HQ.out;omega
   go_wp2_with fail;go_still_tail 9,(by kernel_rfl);by_cases JV:x=y
   ·have HD:Hid (f=l.take k++dd (l.getD (k+1-1) (0,0,0)) (l.drop (k+1))):=Q (by
     rw[Hf.out,bP Iq];have e1:l.getD (k-1) (0,0,0)=x:=by rw[List.getD_eq_getElem?_getD,List.getElem?_eq_getElem TT,<-HY.out,JV];rfl
     have e2:l.getD (k+1-1) (0,0,0)=x:=by rw[Nat.add_sub_cancel,List.getD_eq_getElem?_getD,List.getElem?_eq_getElem Iq,<-HX.out];rfl
     rw[e1,e2,<-HX.out];show _++(if x=x then _ else _)=_;rw[aA rfl])
    subst JV
    go_wp2_with fail
    go_loopw [3,5] (λa b wr=>∃(p j:Nat)(M:List I3)(cur':aP),a=J p∧b=J j∧(1<=j∧k+j<=n∧p+1<=k+j)∧M.length=n∧Hid (M.drop (k+j-1)=l.drop (k+j-1))∧Hid (f=M.take p++dd (l.getD (k+j-1) (0,0,0)) (l.drop (k+j)))∧eJ wr g 37 cur'∧cur'.size=cap*3∧Hid (cur'.toList.take (n*3)=fG M)∧dM (λb=>b=g) w wr) (λ_ b _=>n-k-(intOf b).toNat)
    case atStart=>exact⟨k,1,l,cur,rfl,rfl,⟨by omega,by omega,by omega⟩,HN.out.symm,Q rfl,HD,Qk.grow (Grow.refl _).drew,jQ,Q j9,dM.dK (gP.trans (Grow.refl _).drew)⟩
    case round=>
     obtain⟨p,j,M,cur',rfl,rfl,⟨wo,k7,mz⟩,hMl,HM,Hf2,lS,Fb,zl,hJ⟩:=hrel
     obtain⟨nk,YB⟩:=az (n-k:Nat)
     rw[<-YB.out]
     by_cases ht:j<nk
     ·have hkj:k+j<M.length:=by rw[hMl];have:=YB.out;omega
      have hkp:k+j-1<M.length:=by omega
      have Sb:=zl.out
      rw[<-hMl] at Sb
      obtain⟨q2,Wu⟩:=az (j-1:Nat)
      have nS:IntKind.i64.wrap ((j:Int)-1)=((q2:Nat):Int):=by rw[Wu.out,IntKind.wrap_i64];omega
      obtain⟨s0,s1,s2⟩:=wh lS Sb hkj
      obtain⟨t0,t1,t2⟩:=wh lS Sb hkp
      clear Sb
      obtain⟨abh,jS⟩:=az (M[k+j])
      obtain⟨abg,xL⟩:=az (M[k+j-1])
      rw[<-jS.out,show (k+j)*3=k*3+j*3 from Nat.add_mul _ _ _] at s0 s1 s2
      rw[<-xL.out,show (k+j-1)*3=k*3+q2*3 by have:=Wu.out;omega] at t0 t1 t2
      have d3:decide ((j:Int)<(nk:Int))=true:=aC ap
      have hq2n:q2<nk:=by have:=Wu.out;omega
      clear zd
      clear x0 x1 x2 y0 y1 y2
      go_wp2_with fail
      clear d3
      go_still_tail 9,(by kernel_rfl)
      by_cases hXY:abh=abg
      ·rw[<-hXY] at t0 t1 t2 xL
       go_wp2_with fail
       have hY:l.getD (k+j-1) (0,0,0)=abh:=by rw[List.getD_eq_getElem?_getD];have:=congrArg (λz=>z[0]?) HM.out;simp only[List.getElem?_drop,Nat.add_zero] at this;rw[<-this,List.getElem?_eq_getElem hkp,<-xL.out,hXY];rfl
       have hX:l.getD (k+j) (0,0,0)=abh:=by rw[List.getD_eq_getElem?_getD];have:=congrArg (λz=>z[1]?) HM.out;simp only[List.getElem?_drop,show k+j-1+1=k+j by omega] at this;rw[<-this,List.getElem?_eq_getElem hkj,<-jS.out];rfl
       have Z4:k+j<l.length:=by rw[<-HN.out];omega
       refine⟨⟨p,j+1,M,cur',rfl,by go_num,⟨by omega,by have:=YB.out;omega,by omega⟩,hMl,Q ?_,Q ?_,lS.grow (Grow.refl _).drew,Fb,zl,hJ.trans (dM.dK (Grow.refl _).drew)⟩,by simp[intOf];omega⟩
       ·have:=congrArg (List.drop 1) HM.out
        rw[List.drop_drop,List.drop_drop,show k+j-1+1=k+(j+1)-1 by omega] at this
        exact this
       ·rw[Hf2.out,bP Z4]
        have e3:l[k+j]=abh:=by rw[List.getD_eq_getElem?_getD,List.getElem?_eq_getElem Z4] at hX;exact hX
        rw[hY,e3,show k+(j+1)-1=k+j by omega,hX]
        show _++(if abh=abh then _ else _)=_
        rw[aA rfl];rfl
      ·have a4o:¬ (abh.1=abg.1∧abh.2.1=abg.2.1∧abh.2.2=abg.2.2):=λ⟨a,b,c⟩=>hXY (Prod.ext a (Prod.ext b c))
       refine ou rfl (v := aY true) (by go_simp;rw[ZQ a4o]) ?_
       have F9:=lS.grow (Grow.refl wr).drew
       have Yg:p*3+[Value.int .i64 abh.1,J abh.2.1,J abh.2.2].length<=cur'.size:=by rw[Fb];show p*3+3<=_;omega
       have hpc:¬ n<=p:=by omega
       clear t0 t1 t2
       go_wp2_with (refine pX rfl 37 (.tmp 51) (.tmp 50) rfl g (p*3) rfl [J abh.1,J abh.2.1,J abh.2.2] rfl F9 Yg rfl aw rfl ?_;intro w6 Wv Uw hs6;refine stay ?_)
       refine dI ?_
       go_wp2_with fail
       have hY:l.getD (k+j-1) (0,0,0)=abg:=by rw[List.getD_eq_getElem?_getD];have:=congrArg (λz=>z[0]?) HM.out;simp only[List.getElem?_drop,Nat.add_zero] at this;rw[<-this,List.getElem?_eq_getElem hkp,<-xL.out];rfl
       have Z4:k+j<l.length:=by rw[<-HN.out];have:=YB.out;omega
       have hX:l[k+j]=abh:=by have:=congrArg (λz=>z[1]?) HM.out;simp only[List.getElem?_drop,show k+j-1+1=k+j by omega] at this;rw[List.getElem?_eq_getElem hkj,List.getElem?_eq_getElem Z4,<-jS.out] at this;exact (Option.some.inj this).symm
       have hpM:p<M.length:=by omega
       refine⟨⟨p+1,j+1,M.set p abh,_,by go_num,by go_num,⟨by omega,by have:=YB.out;omega,by omega⟩,by rw[dh];exact hMl,Q ?_,Q ?_,Wv,?_,Q ?_,(hJ.trans (dM.dK (Grow.refl _).drew)).trans Uw⟩,by simp[intOf];omega⟩
       ·have:=congrArg (List.drop 1) HM.out
        rw[List.drop_drop,List.drop_drop,show k+j-1+1=k+(j+1)-1 by omega] at this
        rw[<-this,List.drop_set_of_lt ap]
       ·rw[Hf2.out,bP Z4,hY,hX,show k+(j+1)-1=k+j by omega]
        have e3:l.getD (k+j) (0,0,0)=abh:=by rw[List.getD_eq_getElem?_getD,List.getElem?_eq_getElem Z4,hX];rfl
        have e4:(M.set p abh).take (p+1)=M.take p++[abh]:=by rw[br (by rw[dh];exact hpM),List.take_set_of_le (bh _),List.getElem_set_self]
        rw[e3,e4]
        show _++(if abh=abg then _ else _)=_
        rw[aB hXY,bp];rfl
       ·simp only[cy,bd,bn,bO,bZ,bD,cx]
        have:p*3+3<=cur'.size:=Yg
        omega
       ·show List.take (n*3) (cur'.toList.take (p*3)++iR abh++cur'.toList.drop (p*3+(iR abh).length))=_
        have:p*3+3<=cur'.size:=Yg
        rw[E7 _ _ _ _ (by rw[jG];omega) (by rw[bZ];omega),zl.out,GC M hpM];rfl
     ·have d3:decide ((j:Int)<(nk:Int))=false:=aD ap
      have YT:p<n:=by omega
      have a4p:Hid (k+j=n):=Q (by have:=YB.out;omega)
      have za:∀ty,(Builtin.clear_ #[81] ty #[Z (some ⟨g,p*3,none⟩) (n-p) (cap-p)]).run W wr=.ok (a_ #[]) (wr.setCells g (p*3) (bM (aZ #[(),(),()]:K).cells (n-p)).toList):=λty=>by refine j_ YA (sG YA) (by simp[Value.cells,Value.oneCell']) wr ty g (p*3) (n-p) (cap-p) ap (λq hq=>?_) (λq hq=>lS.frozen _);rw[lS.cell,Array.getElem?_eq_getElem ap];rfl
      clear x0 x1 x2 y0 y1 y2
      go_wp2
      go_ret
      have hZl:(bM #[Value.int .i64 0,(),()] (n-p)).toList.length=(n-p)*3:=by simp[bM]
      generalize (bM #[Value.int .i64 0,(),()] (n-p)).toList=abe at hZl ⊢
      have mn:p*3+abe.length<=cur'.size:=by omega
      have hf:f=M.take p:=by rw[Hf2.out,a4p.out,cR (by rw[<-HN.out];exact bh _)];exact bm _
      have Qr:f.length=p:=by rw[hf,bn];omega
      refine⟨_,rfl,?_,hJ.imp (λb hb=>hb▸hV) |>.trans ((uo g (p*3) abe wr).imp λb hb=>hb▸hV)⟩
      rw[Qr]
      refine Jf hV (lS.part (p*3) abe mn) (by simp only[cy,bd,bn,bO,bZ];omega) ?_ Qr ap iO
      rw[hf,show ∀l:List K,l.toArray.toList=l from λ_=>rfl,bp,List.take_append_of_le_length (by simp;omega),List.take_take,Nat.min_self]
      have:=congrArg (List.take (p*3)) zl.out
      rw[List.take_take,cz ap] at this
      rw[this]
      exact ki iR 3 jG M p
   ·have a4q:¬ (x.1=y.1∧x.2.1=y.2.1∧x.2.2=y.2.2):=λ⟨a,b,c⟩=>JV (Prod.ext a (Prod.ext b c))
    refine ou rfl (v := aY false) (by go_simp;rw[ZQ a4q]) ?_;go_wp2_with fail;refine⟨⟨k+1,by omega,by omega,by go_num,Q ?_,gP.trans (Grow.refl _).drew⟩,by simp[intOf];omega⟩;rw[Hf.out,bP Iq];have e1:l.getD (k-1) (0,0,0)=y:=by rw[List.getD_eq_getElem?_getD,List.getElem?_eq_getElem TT,<-HY.out];rfl
    have e2:l.getD (k+1-1) (0,0,0)=x:=by rw[Nat.add_sub_cancel,List.getD_eq_getElem?_getD,List.getElem?_eq_getElem Iq,<-HX.out];rfl
    rw[e1,e2,br Iq,<-HX.out];show _++(if x=y then _ else _)=_;rw[aB JV,bp];rfl
  ·have a6n:Hid (k=n):=Q ap
   have hf:f=l:=by rw[Hf.out,a6n.out,cR (by rw[<-HN.out];exact bh _),bH (by rw[<-HN.out];exact bh _)];exact bm _
   go_wp2;go_ret;rw[hf,<-HN.out];exact⟨_,rfl,Jf hV Qk jQ j9 HN.out.symm kM iO,dM.dK gP⟩
end Go.Proofs.YtpeepcmdehhbgaaGreatDoor
end
namespace Go.Proofs.YtpeepcmdehhbgaaGreatDoor
open RowKit Hop
def lL:List Dl->Dl->List Dl
 | [],d=>[d]
 | x::l,d=>if x.1=d.1 then (x.1,min (x.2+d.2) 18446744073709551615)::l else x::lL l d
def pE(q:List Dl):List Dl:=q.foldl lL []
theorem AF:∀{l:List Dl}{d:Dl},(∀x∈l,decide (x.1=d.1)=false)->lL l d=l++[d]
 | [],_,_=>rfl
 | x::l,d,h=>by
   have Y:x.1≠d.1:=by simpa using h x (by simp)
   unfold lL;rw[aB Y,AF λy hy=>h y (by simp[hy])];rfl
theorem Jg:∀{l:List Dl}{d:Dl}{k:Nat}(N:k<l.length),decide (l[k].1=d.1)=true->(∀x∈l.take k,decide (x.1=d.1)=false)->lL l d=l.set k (l[k].1,min (l[k].2+d.2) 18446744073709551615)
 | x::l,d,0,N,h,_=>by
   have Y:x.1=d.1:=by simpa using h
   unfold lL;rw[aA Y];rfl
 | x::l,d,k+1,N,h,G=>by
   have Y:x.1≠d.1:=by simpa using G x (by simp)
   unfold lL;rw[aB Y,Jg (l:=l) (d:=d) (k:=k) (by simpa using N) (by simpa using h) λy hy=>G y (by simp[hy])];rfl
theorem Oc(l:List Dl)(d:Dl):(lL l d).length<=l.length+1:=by
 induction l with
 | nil=>simp[lL]
 | cons x l ih=>unfold lL;split<;>simp<;>omega
theorem Od{l:List Dl}{d:Dl}(h:∀x∈l,x.2<=18446744073709551615)(hd:d.2<=18446744073709551615):∀x∈lL l d,x.2<=18446744073709551615:=by
 induction l with
 | nil=>intro x Y;simp[lL] at Y;subst Y;exact hd
 | cons y l ih=>
   intro x Y;unfold lL at Y;split at Y
   ·rcases List.mem_cons.1 Y with rfl|Y
    ·exact Nat.min_le_right _ _
    ·exact h x (by simp[Y])
   ·rcases List.mem_cons.1 Y with rfl|Y
    ·exact h _ (by simp)
    ·exact ih (λz hz=>h z (by simp[hz])) x Y
theorem ZR(w:X)(s s':aR)(n x y:Nat)(hy:eJ w y 147 #[aX s',ae ah x]):dz W 334 #[aZ #[aX s,ae ah n],y] w λe O=>e=b5 (aY (decide (s=s')))∧Grow w O:=by
 have fu:=dT w (.cells #[aX s,ae ah n] 147);have c0:=(hy.grow fu).cell 0;by_cases h:s=s'
 ·subst h
  go_in;go_wp2;go_ret;exact⟨by simp,fu⟩
 ·have hb:=abn.sZ h
  have hd:Hid (decide (s=s')=false):=Q (aD h);replace h:=Q h;go_in;go_wp2;go_ret;exact⟨by rw[hd.out];rfl,fu⟩
theorem xT:∀(h:List Dl)(k v:Nat)(N:k<h.length),(fm h).set (k*2+1) (ae ah v)=fm (h.set k (h[k].1,v))
 | [],k,v,N=>absurd N (by simp)
 | b::l,0,v,N=>rfl
 | b::l,k+1,v,N=>by
   rw[show (k+1)*2+1=k*2+1+1+1 by omega,show fm (b::l)=aX b.1::ae ah b.2::fm l from rfl,bz,bz,xT l k v (by simpa using N)];rfl
theorem L5(w:X)(D:aV)(A:aU)(n c:Nat)(l:List Dl)(h:jM w D A n l)(hn:n<=1000)(hl:∀d∈l,d.2<=18446744073709551615):dz W 281 #[Z A n c] w λe O=>∃A2,e=b5 (Z A2 (pE l).length (pE l).length)∧jM O (New w O) A2 (pE l).length (pE l)∧Grow w O:=by
 have rA:Hid (l.length=n):=Q h.len;have hS:=St.begin_ (l:=[]) (w:=w) (V:=λ_=>False) trivial (λ_ h=>h.elim) trivial;go_in;go_wp2_with fail;go_loopw [3,9] (λu i wr=>∃(k:Nat)(q:List Dl),i=J k∧k<=n∧(l.drop k).foldl lL q=pE l∧q.length<=k∧(∀x∈q,x.2<=18446744073709551615)∧St (λ_=>False) w [.o (fK 147 2 u q.length (fm q))] wr) (λ_ i _=>n-(intOf i).toNat);case atStart=>exact⟨0,[],rfl,by omega,rfl,bh _,(λ_ h=>absurd h (by simp)),hS.join (fK.framed _ _ _ _ _) (Grow.refl _) (U:=λ_=>False) Row.nil (λ_ h=>h.elim)⟩
 case round=>
  obtain⟨k,q,rfl,oL,hf,T_,RH,hS⟩:=hrel;obtain⟨Aq,cq,rfl,hcq,hmq⟩:=fK.sl hS;have gP:Grow w wr:=hS.grown;by_cases N:k<n
  ·obtain⟨ad,hq,rfl,f0,f1⟩:=kn (In.grow h gP) N
   have e0:=f0 wr (Grow.refl _);have e1:=f1 wr (Grow.refl _);have Sc:=hl l[k] (bF hq);rw[bP hq,List.foldl_cons] at hf;generalize l[k]=d at e0 e1 Sc hf;obtain⟨s,x⟩:=d;dsimp only at e0 e1 Sc;obtain⟨y,wa,HY,HA,mh⟩:=hS.new' #[aX s,ae ah x] 147;obtain⟨U,hU,_⟩:=mh.own.see 1 rfl;obtain⟨Aq',cq',e6,Se,_⟩:=Row.jL (show Row wa U 147 2 (Z Aq q.length cq) q.length (fm q) from hU);injection e6 with e6 _ e7;subst e6 e7;have hY:=mh.blk 0 rfl;have hIx:=tf wa U Aq q.length cq q Se ap 334 #[y] (λz=>decide (z.1=s)) ⟨λvs w=>by kernel_rfl,λO H d _=>ZR O d.1 s d.2 x y (hY.grow H)⟩;clear f0 f1;replace hf:=Q hf;go_wp2_with fail;rw[<-HA.out,<-HY.out];refine hIx.mono ?_;rintro e w2 ⟨⟨rfl,kh⟩|⟨j,hj,rfl,hp,kh⟩,fk⟩
   ·have dV:=mh.grow fk
    have L6:=Q (AF (d:=(s,x)) kh);replace kh:=Q kh;have y0:w2.cell? ⟨y,0,none⟩=some (aX s):=dV.facts.1.1 0;have y1:w2.cell? ⟨y,1,none⟩=some (ae ah x):=dV.facts.1.1 1;obtain⟨y2,wb,xL,HB,dX⟩:=dV.new' #[aX s,ae ah x] 147;go_wp2_with (at_builtin;refine stay ?_);refine dI ?_;rw[<-HB.out,<-xL.out];refine g_ oQ rfl (.tmp 18) (.tmp 20) rfl rfl (dX.front 2 rfl) (A:=some ⟨y2,0,none⟩) (m:=1) (c:=1) (news:=[aX s,ae ah x]) rfl (In.reads ((dX.blk 0 rfl).jL (size:=2) (n:=1) rfl)) (by simp[Value.oneCell']) ap ?_;intro v' w4 eO;go_wp2_with fail;refine⟨⟨k+1,q++[(s,x)],by go_num,by omega,by rw[<-L6.out];exact hf.out,by simp;omega,λz hz=>?_,?_⟩,by simp[intOf];omega⟩
    ·rcases List.mem_append.1 hz with hz|hz
     ·exact RH z hz
     ·rw[List.mem_singleton.1 hz];exact Sc
    ·have h5:=(eO.dO 1 rfl).dO 1 rfl
     rw[bd,fm,bL];exact h5
   ·have dV:=(mh.grow fk).front 1 rfl
    have L6:=Q (Jg (d:=(s,x)) hj hp kh);have fj:Hid ((q.set j (q[j].1,min (q[j].2+x) 18446744073709551615)).length=q.length):=Q (by rw[dh]);have hdc:=Q (xT q j (min (q[j].2+x) 18446744073709551615) hj);have hqj:=RH q[j] (bF hj);replace kh:=Q kh;replace hp:=Q hp;obtain⟨g,cg,e8,_⟩:=fK.shape dV ap;injection e8 with e8 _ e9;subst e8 e9;have BE:=Od (l:=q) (d:=(s,x)) RH Sc;rw[L6.out] at BE;replace BE:=Q BE;have ia:∀l' O,St (λ_=>False) w (.o (fK 147 2 (Z (some ⟨g,0,none⟩) q.length cq) q.length (fm q))::.c y 147 #[aX s,ae ah x]::l') O->O.cell? ⟨g,j*2+1,none⟩=some (ae ah (q[j].2:Int))∧O.cell? ⟨y,1,none⟩=some (ae ah x):=λl' O h=>
     ⟨((fK.at_ h).1 (j*2+1) ap).trans ((flat_get mN 2 iH q j 1 hj ap).trans rfl),h.facts.1.1 1⟩
    have lR:j<q.length:=hj;generalize q[j]=d0 at L6 fj hdc hqj ia BE;obtain⟨s0,x0⟩:=d0;dsimp only at L6 fj hdc hqj ia BE;have dj0:decide ((j:Int)<0)=false:=aD ap;go_wp2_with fail;have eW:=dV.grow (Grow.refl _).drew;have eA:=ia _ _ eW;refine dJ rfl ?_;refine fC (λO=>O.cell? ⟨g,j*2+1,none⟩=some (ae ah x0)∧O.cell? ⟨y,1,none⟩=some (ae ah x)) [10,11,12] 13 rfl [0,1,2,3,4,5,6,7,8] ?_;iterate 9 (refine eV rfl eA (λw1 ⟨I,G⟩=>aM) ?_)
    refine eZ 9 [] rfl ?_;have UH:=abk.Dt w2.drew x0 x (by unfold abk.o6;omega) (by unfold abk.o6;omega);obtain⟨M,HM⟩:=az (min (x0+x) 18446744073709551615);rw[show (if x0+x<=abk.o6 then x0+x else abk.o6)=M by rw[HM.out];unfold abk.o6;split<;>omega] at UH;rw[<-HM.out] at L6 fj hdc BE;go_wp2_with fail;refine UH.mono ?_;rintro e w3 ⟨rfl,rfl⟩;go_wp2_with fail;refine⟨λ_=>eA,?_⟩;refine fY 10 rfl aw ?_;have hcR:=fK.at_ eW;obtain⟨kM,lV⟩:=eA;have hfz:=hcR.2 (j*2+1);clear hcR;go_wp2_with fail;have eO:=((dV.a3U (j*2+1) (ae ah M)).grow (Grow.refl _).drew).dO 1 rfl;refine⟨⟨k+1,q.set j (s0,M),by go_num,by omega,by rw[<-L6.out];exact hf.out,by rw[fj.out];omega,BE.out,?_⟩,by simp[intOf];omega⟩;rw[fj.out,<-hdc.out];exact eO
  ·have kS:l.drop k=[]:=cR (by rw[rA.out];omega)
   rw[kS] at hf;replace hf:=Q hf;replace kS:=Q kS;have za:=od wr Aq q.length cq hcq;go_wp2_with fail;refine za.mono ?_;rintro e w2 ⟨rfl,rfl⟩;go_wp2;go_ret;rw[<-hf.out];obtain⟨U,hU,fS⟩:=hS.own.see 0 rfl;obtain⟨A7,c7,e7,hI7,_⟩:=Row.jL (show Row wr U 147 2 (Z Aq q.length cq) q.length (fm q) from hU);injection e7 with e7;subst e7;exact⟨_,rfl,hI7.mono λb hb=>⟨(fS b hb).1.elim False.elim id,(fS b hb).2⟩,gP⟩
end Go.Proofs.YtpeepcmdehhbgaaGreatDoor
namespace Go.Proofs.YtpeepcmdehhbgaaGreatDoor
open RowKit Hop
def o0(x:Int):K := J x
def GD(k:Int×Int):K := aZ #[J k.1,J k.2]
theorem Oe:oo W 3 o0:=zR aw
theorem Ww:oo W 325 GD:=sR (fs:=(Tryz.prog.fieldsOf 325)) aw (λw b k=>by unfold GD;kernel_rfl)
 (λw a b=>by unfold GD;show (Op.equalIn 10000 _ _ _).run W w=_;go_simp;by_cases I:a.1=b.1<;>by_cases G:a.2=b.2<;>simp[I,G,Prod.ext_iff])
 (λk=>by simp[GD,Instr.sameBits])
theorem zI(w:X):(zeroValue 2).run W w=.ok (J 0) w:=by kernel_rfl
theorem zS(w:X):(zeroValue 268).run W w=.ok (.pointer none) w:=by kernel_rfl
def UI(m s bE bS p g:Nat)(q:abk.Sm)(fQ:List (Int×K))(gO:List ((Int×Int)×K))(F:Int)(M:Nat):List dW:=[Cell m 138 #[s,.map (some bE),.map (some bS)],abk.gT s q,eI o0 bE fQ,eI GD bS gO,Cell p 272 #[g,ay],Cell g 328 #[J F,ae ah M]]
def xU(m:Nat)(q:abk.Sm)(fQ:List (Int×K))(st:Option ((Int×Int)×(Int×Nat))):dW:=λw V=>match st with
 | none=>∃s bE bS,dN [Cell m 138 #[.pointer (some ⟨s,0,none⟩),.map (some bE),.map (some bS)],abk.gT s q,eI o0 bE fQ,eI GD bS []] w V
 | some (k,F,M)=>∃s bE bS p g,dN (UI m s bE bS p g q fQ [(k,.pointer (some ⟨p,0,none⟩))] F M) w V
theorem C1(m s bE bS p g:Nat)(q:abk.Sm)(fQ:List (Int×K))(gO:List ((Int×Int)×K))(F:Int)(M:Nat):eG (UI m s bE bS p g q fQ gO F M):=(((((eG.nil.cons (Cell.framed _ _ _)).cons (Cell.framed _ _ _)).cons (eI.framed _ _)).cons (eI.framed _ _)).cons (abk.gT.framed _ _)).cons (Cell.framed _ _ _)
theorem C2(m s bE bS:Nat)(q:abk.Sm)(fQ:List (Int×K)):eG [Cell m 138 #[s,.map (some bE),.map (some bS)],abk.gT s q,eI o0 bE fQ,eI GD bS []]:=(((eG.nil.cons (eI.framed _ _)).cons (eI.framed _ _)).cons (abk.gT.framed _ _)).cons (Cell.framed _ _ _)
theorem xU.framed(m:Nat)(q:abk.Sm)(fQ:List (Int×K))(st:Option ((Int×Int)×(Int×Nat))):eu (xU m q fQ st):=λw O V h N=>by
 match st,h with
 | none,h=>obtain⟨s,bE,bS,h⟩:=h;exact⟨s,bE,bS,dN.framed _ (C2 _ _ _ _ _ _) w O V h N⟩
 | some (k,F,M),h=>obtain⟨s,bE,bS,p,g,h⟩:=h;exact⟨s,bE,bS,p,g,dN.framed _ (C1 _ _ _ _ _ _ _ _ _ _ _) w O V h N⟩
theorem xU.wide(m:Nat)(q:abk.Sm)(fQ:List (Int×K))(st:Option ((Int×Int)×(Int×Nat))):C_ (xU m q fQ st):=λw U U' hu h=>by
 match st,h with
 | none,h=>obtain⟨s,bE,bS,h⟩:=h;exact⟨s,bE,bS,dN.wide _ w U U' hu h⟩
 | some (k,F,M),h=>obtain⟨s,bE,bS,p,g,h⟩:=h;exact⟨s,bE,bS,p,g,dN.wide _ w U U' hu h⟩
theorem L8(w:X):dz W 54 #[] w λe O=>∃m,e=b5 (((m:Nat):K))∧xU m [] [] none O (New w O)∧Grow w O:=by
 have QK:=@run_makeMap W;have hK:=abk.oS w;go_in;go_wp2_with fail;refine hK.mono ?_;rintro e w1 ⟨s,rfl,hS,eD⟩;go_wp2;go_ret;have g1:Grow w1 (w1.alloc (.map #[] 0)):=(Below.refl _ w1).alloc (bh _) _;have g2:=(Below.refl _ (w1.alloc (.map #[] 0))).alloc (bh _) (.map #[] 0);generalize sC:w1.alloc (.map #[] 0)=w2 at g1 g2 ⊢;have m1:eI (κ:=Int) o0 (w1:Nat) [] w2 (λb=>b=(w1:Nat)):=sC▸eI.made w1;have m2:eI (κ:=Int×Int) GD (w2:Nat) [] (w2.alloc (.map #[] 0)) (λb=>b=(w2:Nat)):=eI.made w2;have z2:(w2:Nat)=(w1:Nat)+1:=by rw[<-sC];simp
 rw[<-z2];generalize Bg:w2.alloc (.map #[] 0)=w3 at g2 m2 ⊢;have z3:(w3:Nat)=(w2:Nat)+1:=by rw[<-Bg];simp
 have g3:=dT w3 (.cells #[s,.map (some (w1:Nat)),.map (some (w2:Nat))] 138);have hB:=eJ.made w3 138 #[s,.map (some (w1:Nat)),.map (some (w2:Nat))];generalize hw4:w3.alloc (.cells #[s,.map (some (w1:Nat)),.map (some (w2:Nat))] 138)=w4 at g3 hB ⊢;have z4:(w4:Nat)=(w3:Nat)+1:=by rw[<-hw4];simp
 have zz:=eD.size;have gA:Grow w1 w4:=(g1.trans g2).trans g3;have eO:=abk.gT.framed s [] w1 w4 _ hS λb hb=>gA.block b hb.2;have m14:=eI.framed (ke:=o0) _ _ w2 w4 _ m1 λb hb=>(Grow.trans g2 g3).block b (by rw[hb];omega);have m24:=eI.framed (ke:=GD) _ _ w3 w4 _ m2 λb hb=>g3.block b (by rw[hb];omega);refine⟨(w3:Nat),by rw[z3];rfl,⟨s,(w1:Nat),(w2:Nat),λb=>b=(w3:Nat),λb=>New w w4 b∧b≠(w3:Nat),⟨rfl,hB⟩,⟨New w w1,λb=>b=(w1:Nat)∨b=(w2:Nat),eO,⟨λb=>b=(w1:Nat),λb=>b=(w2:Nat),m14,⟨λb=>b=(w2:Nat),λ_=>False,m24,trivial,λ_ h=>h,λ_ h=>h.elim,λ_ _ h=>h⟩,λ_ h => .inl h,λ_ h => .inr h,λb I G=>?_⟩,λb hb=>?_,λb hb=>?_,λb hb E=>?_⟩,λb hb=>?_,λb hb=>hb.1,λb hb E=>E.2 hb⟩,eD.trans gA⟩;·subst I;omega
 ·exact⟨⟨hb.1,by have:=hb.2;omega⟩,by have:=hb.2;omega⟩
 ·rcases hb with rfl|rfl
  ·exact⟨⟨by omega,by omega⟩,by omega⟩
  ·exact⟨⟨by omega,by omega⟩,by omega⟩
 ·rcases E with rfl|rfl
  ·have:=hb.2;omega
  ·have:=hb.2;omega
 ·subst hb;exact⟨by omega,by omega⟩
end Go.Proofs.YtpeepcmdehhbgaaGreatDoor
section
variable{w O:X}
namespace Go.Proofs.YtpeepcmdehhbgaaGreatDoor
open RowKit Hop V
def iK(k:Int×Int×Int):K := aZ #[J k.1,J k.2.1,J k.2.2]
theorem Og:oo W 2 o0:=zR aw
theorem Oh:oo W 37 iK:=sR (fs:=(Tryz.prog.fieldsOf 37)) aw (λw b k=>by unfold iK;kernel_rfl)
 (λw a b=>by unfold iK;show (Op.equalIn 10000 _ _ _).run W w=_;go_simp;by_cases I:a.1=b.1<;>by_cases G:a.2.1=b.2.1<;>by_cases L:a.2.2=b.2.2<;>simp[I,G,L,Prod.ext_iff])
 (λk=>by simp[iK,Instr.sameBits])
theorem Oi(b:aT)(h:b.length<=65536):(frame b).length<=b.length+14:=by rw[jB];have:=eE (n:=b.length) ap;omega
structure pj where
 (r s x d m:Nat)
def iu(p:pj)(node nodes commit:Int)(v:K)(leads:Bool)(own:Int):Array K:=#[J node,J nodes,.pointer (some ⟨p.s,0,none⟩),.pointer (some ⟨p.m,0,none⟩),J commit,v,aY leads,J own]
theorem uG(w:X)(g:Nat)(l:List abo.Ab)(last:Int)(V:aV)(h:abo.eh g l last w V):dz W 283 #[g] w λe O=>e=b5 (J last)∧w=O:=by obtain⟨_,v,q,R,D,_,_,hB,_⟩:=h;have c1:=hB.cell 1;go_in;go_wp2;go_ret;exact⟨rfl,rfl⟩
def ZS(to:Int)(e:En)(A:aU)(c:Nat):Array K:=#[J to,J 1,J e.k,J e.ag,J e.sh,J e.sq,J e.ep,Z A e.ds.length c,aX e.se,J e.fr,J e.tg,(),(),ae ah 0,(),(),ay,(),()]
theorem L9{B:Nat}{x:El}(h:kP w (λb=>B<=b∧b<(w:Nat)) x)(H:Grow w O):kP O (λb=>B<=b∧b<(O:Nat)) x:=⟨In.mono (In.grow h.1 H) λb hb=>⟨hb.1,bw hb.2 H.size⟩,h.2⟩
theorem xV(w:X)(ρ:Operand->K)(o:dE)(ho:o.op=.alloc 218):(execOp ρ o).run W w=.ok (.value (.pointer (some ⟨(w:Nat),0,none⟩))) (w.alloc (.cells aI 218)):=by obtain⟨dst,op,ty,pos,after,guard⟩:=o;simp only at ho;subst ho;go_simp
theorem La:(Tryz.prog.info? 218).map (λi=>(i.zero,i.size,i.bytes))=some (some (aZ aI),19,192):=by kernel_rfl
theorem AH:Elem W 30 218 19 192 (aZ aI):=⟨Tryz.underlying30,info_parts La,rfl,by decide,by decide⟩
def tu(B:Nat)(to:Int)(e:En)(u:K)(w:X):Prop:=∃(A:aU)(c:Nat)(U:aV),Row w U 218 19 u 1 (ZS to e A c).toList∧(∀b,U b->B<=b∧b<(w:Nat))∧kP w (λb=>B<=b∧b<(w:Nat)) ⟨e,A,c⟩
theorem tu.sl{B:Nat}{to:Int}{e:En}{u:K}(h:tu B to e u w):∃A c,u=Z A 1 c:=by obtain⟨A,c,U,I,_⟩:=h;obtain⟨A2,c2,e2,_⟩:=I.jL;exact⟨A2,c2,e2⟩
theorem tu.grow{B:Nat}{to:Int}{e:En}{u:K}{w O:X}(h:tu B to e u w)(H:Grow w O):tu B to e u O:=by obtain⟨A,c,U,I,G,L⟩:=h;exact⟨A,c,U,I.grow H,λb hb=>⟨(G b hb).1,bw (G b hb).2 H.size⟩,L9 L H⟩
theorem i5{r B:Nat}{w1 w2:X}{l:aT}(H:Grow w w1)(T:jl r (w:Nat) l w1)(ho:fI r w1 w2):Grow w w2:=Below.trans H (KU ho T.1 H.size)
inductive Rc where
 | ep (n:Nat)
 | eP (d:Dl)
 | pH (k sq:Nat) (ds:List Dl)
 | sh (n:Nat)
 | dn (k sq:Nat)
def Rc.B:Rc->List UInt8
 | .ep n=>iJ 1 [n]
 | .eP d=>iJ 2 []++o7 [d]
 | .pH k sq ds=>iJ 3 [k,sq,ds.length]++o7 ds
 | .sh n=>iJ 4 [n]
 | .dn k sq=>iJ 5 [k,sq]
def jh(d:Dl):Prop:=gZ d=true∧Small d
def Rc.Ok:Rc->Prop
 | .ep n=>1<=n∧n<=1073741824
 | .eP d=>jh d
 | .pH k sq ds=>k<4∧sq<=9223372036854775807∧ds.length<=8∧∀d∈ds,jh d
 | .sh n=>1<=n∧n<=4
 | .dn k sq=>k<4∧sq<=9223372036854775807
def Bk.done(b:Bk)(k:Nat)(sq:Int):Bk:={ b with q:=b.q.set k ⟨abo.p_ (b.qu k).l sq,(b.qu k).k⟩ }
def Bk.take(b:Bk):Rc->Bk
 | .ep n=>{ b with ep:=n }
 | .eP d=>if iV b.eP d=0 then { b with eP:=b.eP++[d] } else b
 | .pH k sq ds=>b.add k sq ds
 | .sh n=>{ b with sh:=n }
 | .dn k sq=>b.done k sq
structure Bk.ZT(b:Bk):Prop where
 eP:b.eP.length<=1000
 u64:∀d∈b.eP,d.2<=18446744073709551615
 cuts:b.cuts.length<=1000000
theorem C3{V:aV}{st:Nat}{z:aQ}{b b':Bk}{sl cu:K}(hz:z.length=4∧b'.q.length=4)(e:b=b')(h:St V w (gQ st z sl cu b') O):dN (px [.o (iq st z b)]) O (iY V w O)∧dM V w O:=by subst e;exact (iq.cls (l:=[]) hz (by rw[bm];exact h)).fin
theorem Sf(w:X)(D:aV)(st:Nat)(z:aQ)(b:Bk)(n:Nat)(hn:1<=n∧n<=1073741824)(A:aU)(m c:Nat)(hb:Bytes w (w:Nat) A m (iJ 1 [n]))(vt:m<=c)(iO:c<=dG):Lw W D 258 #[st,Z A m c] [.o (iq st z b)] (λ(_:Unit)e=>e=b5 (a_ #[])) (λ_=>[.o (iq st z (b.take (.ep n)))]) w:=by intro V hM hV;obtain⟨hz,sl,cu,hS⟩:=iq.opn (St.begin_ hM (λb hb=>(hV b hb).1) ⟨iq.framed _ _ _,trivial⟩);rw[bm] at hS;rw[show iJ 1 [n]=enc 1++(enc n++[]) by simp[iJ]] at hb;have hN:=pY w A m c _ hb vt iO;have d1:decide ((1:Int)<=(n:Int))=true:=aC ap;have d2:decide ((n:Int)<=1073741824)=true:=aC ap;go_in;go_wp2_with fail;refine hN.mono ?_;rintro e w1 ⟨r,rfl,lT,eD⟩;have hU:=kj w1 r _ 1 _ ap lT;go_wp2_with fail;refine hU.mono ?_;rintro e w2 ⟨rfl,gS,pN⟩;have fk:=i5 (B:=0) eD lT pN;have hI:=pZ w2 r _ n _ ap gS;go_wp2_with fail;refine hI.mono ?_;rintro e w3 ⟨rfl,jN,oM⟩;have ib:=i5 (B:=0) fk gS oM;have hD:=ov w3 r _ jN;go_wp2_with fail;refine hD.mono ?_;rintro e w4 ⟨rfl,rfl⟩;have dX:=hS.grow ib;clear hS hb lT gS jN pN oM eD fk ib hN hU hI hD;go_wp2_with (refine fv dX 0 rfl 2 _ _ rfl 0 rfl (J n) rfl (bf rfl) rfl aw rfl ?_;clear dX;intro w5 eF;refine stay ?_);refine dI ?_;go_wp2;go_end0;obtain⟨r1,r2⟩:=C3 (st:=st) (z:=z) (b:=b.take (.ep n)) (b':={ b with ep:=n }) hz rfl eF;exact⟨(),rfl,r1,r2⟩
theorem Sg(w:X)(D:aV)(st:Nat)(z:aQ)(b:Bk)(n:Nat)(hn:1<=n∧n<=4)(A:aU)(m c:Nat)(hb:Bytes w (w:Nat) A m (iJ 4 [n]))(vt:m<=c)(iO:c<=dG):Lw W D 258 #[st,Z A m c] [.o (iq st z b)] (λ(_:Unit)e=>e=b5 (a_ #[])) (λ_=>[.o (iq st z (b.take (.sh n)))]) w:=by intro V hM hV;obtain⟨hz,sl,cu,hS⟩:=iq.opn (St.begin_ hM (λb hb=>(hV b hb).1) ⟨iq.framed _ _ _,trivial⟩);rw[bm] at hS;rw[show iJ 4 [n]=enc 4++(enc n++[]) by simp[iJ]] at hb;have hN:=pY w A m c _ hb vt iO;have d1:decide ((1:Int)<=(n:Int))=true:=aC ap;have d2:decide ((n:Int)<=4)=true:=aC ap;go_in;go_wp2_with fail;refine hN.mono ?_;rintro e w1 ⟨r,rfl,lT,eD⟩;have hU:=kj w1 r _ 4 _ ap lT;go_wp2_with fail;refine hU.mono ?_;rintro e w2 ⟨rfl,gS,pN⟩;have fk:=i5 (B:=0) eD lT pN;have hI:=pZ w2 r _ n _ ap gS;go_wp2_with fail;refine hI.mono ?_;rintro e w3 ⟨rfl,jN,oM⟩;have ib:=i5 (B:=0) fk gS oM;have hD:=ov w3 r _ jN;go_wp2_with fail;refine hD.mono ?_;rintro e w4 ⟨rfl,rfl⟩;have dX:=hS.grow ib;clear hS hb lT gS jN pN oM eD fk ib hN hU hI hD;go_wp2_with (refine fv dX 0 rfl 3 _ _ rfl 2 rfl (J n) rfl (bf rfl) rfl aw rfl ?_;clear dX;intro w5 eF;refine stay ?_);refine dI ?_;go_wp2;go_end0;obtain⟨r1,r2⟩:=C3 (st:=st) (z:=z) (b:=b.take (.sh n)) (b':={ b with sh:=n }) hz rfl eF;exact⟨(),rfl,r1,r2⟩
theorem lj{d:Dl}(h:jh d):d.1.size<=1000000∧d.2<=18446744073709551615:=⟨bB h.2.1 am,by have:=h.2.2;omega⟩
theorem Oj(w:X)(D:aV)(st:Nat)(z:aQ)(b:Bk)(s:aR)(x:Nat)(hd:jh (s,x))(hl:b.ZT)(A:aU)(m c:Nat)(hb:Bytes w (w:Nat) A m (iJ 2 []++o7 [(s,x)]))(vt:m<=c)(iO:c<=dG):Lw W D 258 #[st,Z A m c] [.o (iq st z b)] (λ(_:Unit)e=>e=b5 (a_ #[])) (λ_=>[.o (iq st z (b.take (.eP (s,x))))]) w:=by
 intro V hM hV;obtain⟨hz,sl,cu,hS⟩:=iq.opn (St.begin_ hM (λb hb=>(hV b hb).1) ⟨iq.framed _ _ _,trivial⟩);rw[bm] at hS;obtain⟨A1,c1,rfl,kM,ry⟩:=fK.nW hS 1 rfl;rw[show iJ 2 []++o7 [(s,x)]=enc 2++(o7 [(s,x)]++[]) by simp[iJ]] at hb;have hN:=pY w A m c _ hb vt iO;obtain⟨abl,HE⟩:=az (iV b.eP (s,x));have Bh:b.take (.eP (s,x))=if abl=0 then { b with eP:=b.eP++[(s,x)] } else b:=by rw[HE.out];rfl
 go_in;go_wp2_with fail;refine hN.mono ?_;rintro e w1 ⟨r,rfl,lT,eD⟩;have hU:=kj w1 r _ 2 _ ap lT;go_wp2_with fail;refine hU.mono ?_;rintro e w2 ⟨rfl,gS,pN⟩;have fk:=i5 (B:=0) eD lT pN;have hG:dz W 195 #[r,J 1] w2 λe O=>∃A c,e=b5 (Z A 1 c)∧jl r (w:Nat) [] O∧jM O (New w2 O) A 1 [(s,x)]∧1<=c∧c<=dG∧fI r w2 O:=DX w2 r _ [(s,x)] [] gS (λd Iv=>by rw[List.mem_singleton.1 Iv];exact hd.2) (by simp);go_wp2_with fail;refine hG.mono ?_;rintro e w3 ⟨A3,c3,rfl,jN,Qy,sy,R4,oM⟩;have ib:=i5 (B:=0) fk gS oM;obtain⟨ad,hq,rfl,f0,f1⟩:=kn Qy (k:=0) ap;have e0:w3.cell? ad=some (aX s):=f0 w3 (Grow.refl _);have e1:w3.cell? ⟨ad.block,ad.off+1,none⟩=some (ae ah x):=f1 w3 (Grow.refl _);clear f0 f1;obtain⟨y,wa,HY,HA,mh⟩:=(hS.grow ib).new' #[aX s,ae ah x] 147;have om:=jN.grow (show Grow w3 wa by rw[HA.out];exact fb _ _);go_wp2_with fail;rw[<-HA.out,<-HY.out];clear e0 e1;have hD:=ov wa r _ om;go_wp2_with fail;refine hD.mono ?_;rintro e w4 ⟨rfl,rfl⟩;obtain⟨U,hU5,hU6⟩:=mh.own.see 2 rfl;obtain⟨ZU,c1',e6,Se,_⟩:=Row.jL (show Row _ U 147 2 (Z A1 b.eP.length c1) b.eP.length (fm b.eP) from hU5);injection e6 with e6 _ e7;subst e6 e7;have YC:=NZ wa st A1 b.eP.length c1 b.eP U Se (mh.facts.2.1.1 1) (mh.blk 1 rfl).lt (by have:=hl.eP;omega) hl.u64 s x (lj hd).1 (lj hd).2;rw[<-HE.out] at YC;have Vk:wa.cell? ⟨y,0,none⟩=some (aX s):=mh.facts.1.1 0;have vw:wa.cell? ⟨y,1,none⟩=some (ae ah x):=mh.facts.1.1 1;go_wp2_with fail;refine YC.mono ?_;rintro e w5 ⟨rfl,ng⟩;have eF:=mh.grow ng;clear mh Vk vw hU5 hU6 Se om jN Qy;by_cases h0:abl=0
 ·subst h0
  rw[aA rfl] at Bh;replace Bh:=Q Bh;go_wp2_with fail;have eW:=eF.grow (Grow.refl _).drew;have CF:∀l O,St V w (.c y 147 #[aX s,ae ah x]::.c st 186 (Fp z (Z A1 b.eP.length c1) cu b)::l) O->O.cell? ⟨st,1,none⟩=some (Z A1 b.eP.length c1)∧O.cell? ⟨y,0,none⟩=some (aX s)∧O.cell? ⟨y,1,none⟩=some (ae ah x):=λl O h=>⟨h.facts.2.1.1 1,h.facts.1.1 0,h.facts.1.1 1⟩;have eA:=CF _ _ eW;refine dJ rfl ?_;refine fC (λO=>O.cell? ⟨st,1,none⟩=some (Z A1 b.eP.length c1)∧O.cell? ⟨y,0,none⟩=some (aX s)∧O.cell? ⟨y,1,none⟩=some (ae ah x)) [8,9,10] 11 rfl [0,1,2,3,4,5] ?_;iterate 6 (refine eV rfl eA (λw1 ⟨I,G,L⟩=>aM) ?_)
  refine eZ 6 [] rfl ?_;obtain⟨y2,wb,xL,HB,eN⟩:=eF.new' #[aX s,ae ah x] 147;go_wp2_with fail;rw[<-HB.out,<-xL.out];have fH:=eN.grow (Grow.refl _).drew;refine⟨λ_=>⟨fH.facts.2.2.1.1 1,fH.facts.2.1.1 0,fH.facts.2.1.1 1⟩,?_⟩;refine eZ 7 [] rfl ?_;refine g_ oQ rfl (.tmp 50) (.tmp 52) rfl rfl (fH.front 3 rfl) (A:=some ⟨y2,0,none⟩) (m:=1) (c:=1) (news:=[aX s,ae ah x]) rfl (In.reads ((fH.blk 0 rfl).jL (size:=2) (n:=1) rfl)) (by simp[Value.oneCell']) (by have:=hl.eP;omega) ?_;intro v' w8 fD;obtain⟨A8,c8,rfl,hc8,hm8⟩:=fK.nW fD 0 rfl;refine wpList_nil ⟨λ_=>⟨fD.facts.2.2.1.1 1,fD.facts.2.1.1 0,fD.facts.2.1.1 1⟩,?_⟩;refine fY 8 rfl aw ?_;have hf8:=fD.facts.2.2.1;simp only[Fp] at hf8;go_wp2_with fail;have gy:=((fD.put 3 rfl 1 (Z A8 (b.eP.length+1) c8)).dO 1 rfl).dO 1 rfl;go_end0;obtain⟨r1,r2⟩:=C3 (st:=st) (z:=z) (b:=b.take (.eP (s,x))) (b':={ b with eP:=b.eP++[(s,x)] }) (sl := Z A8 (b.eP.length+1) c8) hz Bh.out (by have h9:=gy.perm (List.Perm.swap _ _ _);unfold gQ fm;dsimp only;rw[bd,bL];exact h9)
  exact⟨(),rfl,r1,r2⟩
 ·rw[aB h0] at Bh
  have Mc:(abl == 0)=false:=beq_eq_false_iff_ne.2 h0;replace Bh:=Q Bh;replace h0:=Q h0;go_wp2;go_end0;obtain⟨r1,r2⟩:=C3 (st:=st) (z:=z) (b:=b.take (.eP (s,x))) hz Bh.out (eF.dO 0 rfl);exact⟨(),rfl,r1,r2⟩
def Mp(A:aU)(ds:List Dl):dW:=λw V=>jM w V A ds.length ds
theorem Mp.framed(A:aU)(ds:List Dl):eu (Mp A ds):=λ_ _ _ h N=>In.keep h λb hb _=>N b hb
theorem ZV(w:X)(s:aR)(x:Nat)(hs:s.size<=1000000):dz W 354 #[aZ #[aX s,ae ah x]] w λe O=>e=b5 (aY (!gZ (s,x)))∧Grow w O:=by have fu:=dT w (.cells #[aX s,ae ah x] 147);have hB:=eJ.made w 147 #[aX s,ae ah x];have c0:=hB.cell 0;have c1:=hB.cell 1;have T:=DV (w.alloc (.cells #[aX s,ae ah x] 147)) s x hs;go_in;go_wp2_with fail;refine T.mono ?_;rintro e w2 ⟨rfl,fk⟩;go_wp2;go_ret;exact⟨rfl,fu.trans fk⟩
theorem Ol(w:X)(D:aV)(st r:Nat)(z:aQ)(b:Bk)(k sq:Nat)(N:k<4)(pi:sq<=9223372036854775807)(w0:X)(gl:Grow w0 w)(V:aV)(fN:St V w0 [.o (iq st z b)] w0)(T:jl r (w0:Nat) (enc k++(enc sq++[])) w):dz W 317 #[st,r,aY true] w λe O=>e=b5 (a_ #[])∧St V w0 [.o (iq st z (b.done k sq))] O:=by
 obtain⟨⟨hz,hq⟩,sl,cu,hS⟩:=iq.opn fN;rw[bm] at hS;obtain⟨g,Hg⟩:=az (z.getD k 0);have K5:(Fp z sl cu b)[3+k]?=some ((g:K)):=by
  have h4:k=0∨k=1∨k=2∨k=3:=by omega
  rw[Hg.out];rcases h4 with rfl|rfl|rfl|rfl<;>rfl
 have R9:dz W 140 #[r,J 3] w λe O=>e=b5 (J k)∧jl r (w0:Nat) _ O∧fI r w O:=rX w r _ k 3 _ ap ap T;go_in;go_wp2_with fail;refine R9.mono ?_;rintro e w1 ⟨rfl,lT,yQ⟩;have eD:=i5 (B:=0) gl T yQ;have hC2:=pZ w1 r _ sq _ pi lT;go_wp2_with fail;refine hC2.mono ?_;rintro e w2 ⟨rfl,gS,pN⟩;have fk:=i5 (B:=0) eD lT pN;have hD:=ov w2 r _ gS;go_wp2_with fail;refine hD.mono ?_;rintro e w3 ⟨rfl,rfl⟩;have dV:=hS.grow fk;have za:w2.cell? ⟨st,3+k,none⟩=some ((g:K)):=(dV.facts.1.1 (3+k)).trans K5;go_wp2_with fail;rw[Hg.out];refine (dV.Fo (k+3) (S:=abo.eh (z.getD k 0) (b.qu k).l (b.qu k).k) (lh hz hq N) (λ_=>abo.eh.framed _ _ _) dV.no (λU hU jR=>Lw.turns (abo.DG _ _ _ _ (sq:Int)))).mono ?_;rintro e w4 ⟨_,rfl,eO⟩;have eO:St V w0 (gQ st z sl cu (b.done k sq)) w4:=by unfold gQ Bk.done;dsimp only;rw[<-rZ hz hq N];exact eO
 go_wp2;refine bodyPost_ret (results_none rfl _ _ _) rfl ?_;exact⟨rfl,iq.cls (l:=[]) ⟨hz,by unfold Bk.done;rw[dh];exact hq⟩ (by rw[bm];exact eO)⟩
theorem Lc(w:X)(l:List Dl)(hl:∀d∈l,d.1.size<=1000000):tc 354 #[] (λd => !gZ d) l w:=⟨λvs w=>by kernel_rfl,λO _ d hd=>ZV O d.1 d.2 (hl d hd)⟩
theorem Lf(w:X)(st r:Nat)(z:aQ)(b:Bk)(k sq:Nat)(N:k<4)(pi:sq<=9223372036854775807)(ds:List Dl)(tS:ds.length<=8)(YD:∀d∈ds,jh d)(hl:b.ZT)(w0:X)(gl:Grow w0 w)(V:aV)(fN:St V w0 [.o (iq st z b)] w0)(T:jl r (w0:Nat) (enc k++(enc sq++(enc ds.length++(o7 ds++[])))) w):dz W 317 #[st,r,aY false] w λe O=>e=b5 (a_ #[])∧St V w0 [.o (iq st z (b.add k sq ds))] O:=by
 have R9:dz W 140 #[r,J 3] w λe O=>e=b5 (J k)∧jl r (w0:Nat) _ O∧fI r w O:=rX w r _ k 3 _ ap ap T;have Vj:(ds.any λd => !gZ d)=false:=List.any_eq_false.2 λd hd=>by rw[(YD d hd).1];simp
 go_in;go_wp2_with fail;refine R9.mono ?_;rintro e w1 ⟨rfl,lT,yQ⟩;have eD:=i5 (B:=0) gl T yQ;have hC2:=pZ w1 r _ sq _ pi lT;go_wp2_with fail;refine hC2.mono ?_;rintro e w2 ⟨rfl,gS,pN⟩;have fk:=i5 (B:=0) eD lT pN;have hC3:dz W 140 #[r,J 8] w2 λe O=>e=b5 (J ds.length)∧jl r (w0:Nat) _ O∧fI r w2 O:=rX w2 r _ ds.length 8 _ tS ap gS;go_wp2_with fail;refine hC3.mono ?_;rintro e w3 ⟨rfl,jN,oM⟩;have ib:=i5 (B:=0) fk gS oM;have hG:=DX w3 r _ ds [] jN (λd hd=>(YD d hd).2) ap;go_wp2_with fail;refine hG.mono ?_;rintro e w4 ⟨A4,c4,rfl,om,hI4,q_,VP,S4⟩;have Bi:=i5 (B:=0) ib jN S4;have MC:=fN.join (Mp.framed A4 ds) Bi (U:=New w3 w4) hI4 (λb hb=>⟨bB ib.size hb.1,hb.2⟩);obtain⟨y,wa,HY,HA,mh⟩:=MC.new' #[J sq,Z A4 ds.length c4] 196;have fu:Grow w4 wa:=by rw[HA.out];exact fb _ _
 go_wp2_with fail;rw[<-HA.out,<-HY.out];have hD:=ov wa r _ (om.grow fu);go_wp2_with fail;refine hD.mono ?_;rintro e w5 ⟨rfl,rfl⟩;have Vk:wa.cell? ⟨y,0,none⟩=some (J sq):=mh.facts.1.1 0;have vw:wa.cell? ⟨y,1,none⟩=some (Z A4 ds.length c4):=mh.facts.1.1 1;have hCF:=Jb wa _ A4 ds.length c4 ds (In.grow hI4 fu) ap 354 #[] (λd => !gZ d) (Lc wa ds λd hd=>(lj (YD d hd)).1);rw[Vj] at hCF;go_wp2_with fail;refine hCF.mono ?_;rintro e w6 ⟨rfl,tW⟩;have eN:=mh.grow tW;clear Vk vw;have Vk:w6.cell? ⟨y,0,none⟩=some (J sq):=eN.facts.1.1 0;have vw:w6.cell? ⟨y,1,none⟩=some (Z A4 ds.length c4):=eN.facts.1.1 1;go_wp2_with fail;refine (eN.Fo 2 rfl (λ_=>iq.framed _ _ _) eN.no (λU hU jR=>O2 w6 (λx=>U x∨False) st z b k N (sq:Int) ds A4 c4 (by obtain⟨U',I,G⟩:=nV hU 1 rfl;exact In.mono I λb hb => .inl (G b hb)) q_ VP ap (λx Y=>Y.elim (jR x) False.elim) (by have:=hl.eP;omega) (by have:=hl.cuts;omega))).mono ?_;rintro e w7 ⟨_,rfl,fH⟩;go_wp2;go_end0;exact⟨rfl,(fH.dO 0 rfl).dO 0 rfl⟩
theorem Wx(w:X)(D:aV)(st:Nat)(z:aQ)(b:Bk)(x:Rc)(Y:x.Ok)(hl:b.ZT)(A:aU)(m c:Nat)(hb:Bytes w (w:Nat) A m x.B)(vt:m<=c)(iO:c<=dG):Lw W D 258 #[st,Z A m c] [.o (iq st z b)] (λ(_:Unit)e=>e=b5 (a_ #[])) (λ_=>[.o (iq st z (b.take x))]) w:=by
 have main:∀(kd:Nat)(kd2:Bool)(t:aT)(b':Bk),x.B=enc kd++t->(kd=3∧kd2=false∨kd=5∧kd2=true)->
  (∀(V:aV),St V w [.o (iq st z b)] w->∀(r:Nat)(w2:X),Grow w w2->jl r (w:Nat) t w2->dz W 317 #[st,r,aY kd2] w2 λe O=>e=b5 (a_ #[])∧St V w [.o (iq st z b')] O)->
  Lw W D 258 #[st,Z A m c] [.o (iq st z b)] (λ(_:Unit)e=>e=b5 (a_ #[])) (λ_=>[.o (iq st z b')]) w:=by
  intro kd kd2 t b' e N E V hM hV;have hS:=St.begin_ hM (λb hb=>(hV b hb).1) ⟨iq.framed _ _ _,trivial⟩;rw[e] at hb;have hN:=pY w A m c _ hb vt iO;go_in;go_wp2_with fail;refine hN.mono ?_;rintro e w1 ⟨r,rfl,lT,eD⟩;have hU:=kj w1 r _ kd _ ap lT;go_wp2_with fail;refine hU.mono ?_;rintro e w2 ⟨rfl,gS,pN⟩;have fk:=i5 (B:=0) eD lT pN;have hC:=E V hS r w2 fk gS;clear E lT gS hU hN hb;rcases N with ⟨rfl,rfl⟩|⟨rfl,rfl⟩
  all_goals
   go_wp2_with fail
   refine hC.mono ?_
   rintro e w3 ⟨rfl,dX⟩
   go_wp2
   go_end0
   obtain⟨r1,r2⟩:=dX.fin
   exact⟨(),rfl,r1,r2⟩
 cases x with
 | ep n=>exact Sf w D st z b n Y A m c hb vt iO
 | eP d=>exact Oj w D st z b d.1 d.2 Y hl A m c hb vt iO
 | sh n=>exact Sg w D st z b n Y A m c hb vt iO
 | pH k sq ds=>exact main 3 false (enc k++(enc sq++(enc ds.length++(o7 ds++[])))) _ (by simp[Rc.B,iJ]) (.inl ⟨rfl,rfl⟩) λV hS r w2 H T=>Lf w2 st r z b k sq Y.1 Y.2.1 ds Y.2.2.1 Y.2.2.2 hl w H V hS T
 | dn k sq=>exact main 5 true (enc k++(enc sq++[])) _ (by simp[Rc.B,iJ]) (.inr ⟨rfl,rfl⟩) λV hS r w2 H T=>Ol w2 D st r z b k sq Y.1 Y.2 w H V hS T
structure Bk.Lm(n:Nat)(b:Bk):Prop where
 eP:b.eP.length<=32
 fine:∀d∈b.eP,jh d
 cuts:b.cuts.length<=n
theorem Bk.Lm.lim{n:Nat}{b:Bk}(h:b.Lm n)(hn:n<=1000000):b.ZT:=⟨bB h.eP am,λd hd=>(lj (h.fine d hd)).2,bB h.cuts hn⟩
theorem Bk.Lm.add{n:Nat}{b:Bk}(h:b.Lm n)(k:Nat)(sq:Int)(ds:List Dl):(b.add k sq ds).Lm (n+1):=by
 unfold Bk.add;split;·exact⟨bB (c_ _ _) h.eP,λd hd=>h.fine d (List.mem_filter.1 hd).1,by have:=h.cuts;simp;omega⟩
 ·exact⟨h.eP,h.fine,dw h.cuts⟩
theorem wi{l:List Dl}{d:Dl}(h:iV l d=0):l.length<32∧gZ d=true:=by
 unfold iV at h;split at h;·cases h
 ·rename_i I
  split at h;·cases h
  ·exact⟨by omega,by simpa using I⟩
theorem Bk.Lm.take{n:Nat}{b:Bk}(h:b.Lm n){x:Rc}(Y:x.Ok):(b.take x).Lm (n+1):=by
 cases x with
 | ep _=>exact⟨h.eP,h.fine,dw h.cuts⟩
 | sh _=>exact⟨h.eP,h.fine,dw h.cuts⟩
 | dn k sq=>exact⟨h.eP,h.fine,dw h.cuts⟩
 | pH k sq ds=>exact h.add k sq ds
 | eP d=>
   unfold Bk.take;dsimp only;split
   ·rename_i h0
    have I:=(wi h0).1;refine⟨by simp;omega,λe he=>?_,dw h.cuts⟩;rcases List.mem_append.1 he with he|he
    ·exact h.fine e he
    ·rw[List.mem_singleton.1 he];exact Y
   ·exact⟨h.eP,h.fine,dw h.cuts⟩
theorem Si(w:X)(D:aV)(st:Nat)(z:aQ)(b:Bk)(rs:List Rc)(gC:∀r∈rs,r.Ok)(n:Nat)(hl:b.Lm n)(hn:n+rs.length<=1000000)(A:aU)(q:List Bx)(c:Nat)(hq:IR w D D A q.length q)(kZ:q.map Bx.bs=rs.map Rc.B)(j6:∀b,D b->b<(w:Nat)):Lw W D 199 #[st,Z A q.length c] [.o (iq st z b)] (λ(_:Unit)e=>e=b5 (a_ #[])) (λ_=>[.o (iq st z (rs.foldl Bk.take b))]) w:=by
 intro V hM hV;have kV:∀x,D x->x<(w:Nat)∧¬ V x:=λx Y=>⟨j6 x Y,λh=>(hV x h).2 Y⟩;have hS:=St.begin_ hM (λb hb=>(hV b hb).1) ⟨iq.framed _ _ _,trivial⟩;have fj:Hid (q.length=rs.length):=Q (by rw[<-bj (f:=Bx.bs),kZ,bj]);go_in;go_wp2_with fail;go_loopw [8] (λi wr=>∃(k:Nat)(b':Bk),k<=q.length∧i=J k∧(rs.drop k).foldl Bk.take b'=rs.foldl Bk.take b∧b'.Lm (n+k)∧St V w [.o (iq st z b')] wr) (λi _=>q.length-(intOf i).toNat);case atStart=>exact⟨0,b,by omega,rfl,rfl,hl,hS⟩
 case round=>
  obtain⟨k,b',N,rfl,hb,Fv,hS⟩:=hrel;by_cases fS:k<q.length
  ·have Fz:k<rs.length:=by rw[<-fj.out];exact fS
   rw[bP Fz,List.foldl_cons] at hb;have hrk:=gC rs[k] (bF Fz);have hK:∀b,D b->b<(w:Nat)->wr.heap[b]?=w.heap[b]?:=λb hb _=>hS.keep kV b hb;have Fg:In wr D 1 A q.length (q.flatMap Bx.cells):=In.keep hq.row hK;obtain⟨ad,CQ,rfl,_,lA,e0,_⟩:=In.mr (cells:=Bx.cells) Fg ap ui fS;have Fa:=hq.all q[k] (bF fS);have e0:wr.cell? (ad.add (k*1))=some (.slice q[k].A q[k].m q[k].c):=e0 _ rfl;rw[cM] at e0;have QP:Bytes wr (wr:Nat) q[k].A q[k].m rs[k].B:=by
    have e1:q[k].bs=rs[k].B:=by have e2:=congrArg (λl=>l[k]?) kZ;simp only[List.getElem?_map,List.getElem?_eq_getElem fS,List.getElem?_eq_getElem Fz,df,Option.some.injEq] at e2;exact e2
    rw[<-e1];exact In.reads (In.keep Fa.bs hK)
   have hT:=λD'=>Wx wr D' st z b' rs[k] hrk (Fv.lim ap) q[k].A q[k].m q[k].c QP Fa.le Fa.max;have ZW:=Fv.take hrk;generalize q[k]=b0 at e0 hT;generalize rs[k]=r0 at hb hT ZW;clear QP Fa hrk Fg;replace hb:=Q hb;go_wp2_with fail;refine (hS.at_ 0 rfl (λ_=>iq.framed _ _ _) hS.no (hT _)).mono ?_;rintro e w1 ⟨_,rfl,ej⟩;go_wp2_with fail;exact⟨⟨k+1,_,by omega,by go_num,hb.out,ZW,ej⟩,by simp[intOf];omega⟩
  ·have Vh:k=q.length:=by omega
   rw[show rs.drop k=[] from cR (by rw[<-fj.out];omega)] at hb;replace hb:=Q hb;replace Vh:=Q Vh;go_wp2;go_end0;rw[<-hb.out];obtain⟨r1,r2⟩:=hS.fin;exact⟨(),rfl,r1,r2⟩
theorem Sj(w:X):dz W 198 #[] w λe O=>∃(st:Nat)(z:aQ),e=b5 ((st:K))∧iq st z Bk.new O (New w O)∧Grow w O:=by
 refine (O6 w).mono ?_;rintro e O ⟨s,z,rfl,hB,H⟩;exact⟨s,[z.a,z.b,z.c,z.d],rfl,⟨⟨rfl,rfl⟩,Z none 0 0,Z none 0 0,by obtain⟨U1,U2,I,⟨U3,U4,L,h4,k1,k2,k3⟩,m1,m2,m3⟩:=hB;exact⟨U1,U2,I,⟨U3,U4,L,⟨λ_=>False,U4,Row.nil,h4,λ_ h=>h.elim,λ_ h=>h,λ_ h=>h.elim⟩,k1,k2,k3⟩,m1,m2,m3⟩⟩,H⟩
end Go.Proofs.YtpeepcmdehhbgaaGreatDoor
end
