/- Rd, Rz1. -/
import Derived.Test.YtpeepcmdehhbgaaGreatDoorJs07
import Derived.Test.YtpeepcmdehhbgaaGreatDoorJs08
set_option linter.all false
set_option maxRecDepth 100000
open Go.Value renaming int->ae,slice->Z,string->aX,bool->aY,agg->aZ,tuple->a_
open Go.Ending renaming returned->b5
open Go.IntKind renaming i64->af,u64->ah
open Go (J az aE aA aB aC aD ay aj am ap aw aL aK aJ aI aH aV aU aT aR aQ aP aO aN)
open Go.Proofs.Tryz renaming prog->W
open Go.Lib renaming hid->Q
open List renaming length_append->bd,append_assoc->bp,length_cons->bD,length_drop->bO,prefix_append->cL,take_append_drop->dt
open Nat renaming le_refl->bh,zero_le->bo,mul_one->cM
open Bool renaming eq_false_or_eq_true->bC,false_ne_true->cB
open Go renaming Value->K,World->X,Calls->dz,maxLen->dG
variable{n B k r abp c:Nat}{l t s:aT}{w:X}{A:aU}
namespace Go.Proofs.YtpeepcmdehhbgaaGreatDoor
open RowKit Hop V
def jl(r B:Nat)(l:aT)(w:X):Prop:=B<=r∧∃(A:aU)(n c:Nat),eJ w r 237 #[Z A n c,aY false]∧Bytes w B A n l∧n<=c∧c<=dG
theorem jl.grow{r B:Nat}{l:aT}{w O:X}(h:jl r B l w)(H:Grow w O):jl r B l O:=by obtain⟨I,A,n,c,G,L,h4⟩:=h;have:=G.lt;exact⟨I,A,n,c,G.grow H,L.below (H.mono ap),h4⟩
theorem jl.lt{r B:Nat}{l:aT}{w:X}(h:jl r B l w):r<(w:Nat):=by obtain⟨I,A,n,c,G,L,h4⟩:=h;exact G.lt
def VU(m:Nat)(t:aT)(hm:m<18446744073709551616):iF (enc m++t) m (enc m).length := .inl ⟨hm,cL _ _,rfl⟩
def VV(s t:aT)(hs:s.length<18446744073709551616):pA (enc s.length++s++t) s ((enc s.length).length+s.length) := .inl ⟨hs,cL _ _,rfl⟩
def zZ(h:Bytes w B A n (l++t))(iS:n<=c)(hl:0<l.length):Bytes w B (if c=l.length then A else A.map (·.add l.length)) (n-l.length) t∧l.length<=n:=by have hn:=h.len;rw[bd] at hn;have I:=Reads.cut (size:=1) (cap:=c) h (k:=l.length) ap iS;rw[cM,<-cM l.length,<-pU,cM,List.drop_left' rfl] at I;exact⟨I,by omega⟩
def pY(w:X)(A:aU)(n c:Nat)(l:aT)(h:Bytes w (w:Nat) A n l)(iS:n<=c)(iO:c<=dG):dz W 77 #[Z A n c] w λe O=>∃r,e=b5 (((r:Nat):K))∧jl r (w:Nat) l O∧Grow w O:=by go_in;go_wp2;go_ret;refine⟨_,rfl,⟨bh _,A,n,c,eJ.made w _ _,h.alloc (bh _) _,iS,iO⟩,(Below.refl _ w).alloc (bh _) _⟩
def ov(w:X)(r B:Nat)(h:jl r B [] w):dz W 80 #[r] w λe O=>e=b5 (aY true)∧w=O:=by obtain⟨hB,A,n,c,hK,hb,iS,iO⟩:=h;obtain rfl:0=n:=hb.len;have c0:=hK.cell 0;have c1:=hK.cell 1;go_in;go_wp2;go_ret;exact⟨rfl,rfl⟩
def kj(w:X)(r B m:Nat)(t:aT)(hm:m<18446744073709551616)(h:jl r B (enc m++t) w):dz W 141 #[r] w λe O=>e=b5 (ae ah m)∧jl r B t O∧fI r w O:=by
 obtain⟨hB,A,n,c,hK,hb,iS,iO⟩:=h;have hp:=nx m;obtain⟨E,mn⟩:=zZ hb iS hp;have hG:=qG w B A n c _ hb ap;have c0:=hK.cell 0;have c1:=hK.cell 1;have f0:=hK.frozen 0;obtain⟨k,HK⟩:=az ((enc m).length);rw[<-HK.out] at E mn hp;go_in;go_wp2_with fail;refine hG.mono ?_;rintro e w1 ⟨v,k',hv,rfl,rfl⟩;obtain⟨rfl,qY⟩:=hv.one (VU m t hm);rw[<-HK.out] at qY;subst qY;by_cases o9:c=k'
 ·rw[aA o9] at E
  go_wp2;go_ret;exact⟨rfl,⟨hB,_,_,_,hK.put 0 _,E.setCell (p:=⟨r,0,none⟩) hB _,by omega,by omega⟩,(fI.refl r w).put 0 _⟩
 ·rw[aB o9] at E
  go_wp2;go_ret;exact⟨rfl,⟨hB,_,_,_,hK.put 0 _,E.setCell (p:=⟨r,0,none⟩) hB _,by omega,by omega⟩,(fI.refl r w).put 0 _⟩
def pZ(w:X)(r B m:Nat)(t:aT)(hm:m<=9223372036854775807)(h:jl r B (enc m++t) w):dz W 139 #[r] w λe O=>e=b5 (J m)∧jl r B t O∧fI r w O:=by
 have hN:=kj w r B m t ap h;have Ve:decide ((m:Int) > 9223372036854775807)=false:=aD ap;have hw:IntKind.i64.wrap (m:Int)=(m:Int):=by rw[IntKind.wrap_i64];omega
 go_in;go_wp2_with fail;refine hN.mono ?_;rintro e w1 ⟨rfl,I,ho⟩;go_wp2;go_ret;exact⟨rfl,I,ho⟩
def rX(w:X)(r B m most:Nat)(t:aT)(hm:m<=most)(QK:most<=9223372036854775807)(h:jl r B (enc m++t) w):dz W 140 #[r,J most] w λe O=>e=b5 (J m)∧jl r B t O∧fI r w O:=by have hN:=pZ w r B m t ap h;go_in;go_wp2_with fail;refine hN.mono ?_;rintro e w1 ⟨rfl,I,ho⟩;go_wp2;go_ret;exact⟨rfl,I,ho⟩
def KA(w:X)(r B:Nat)(s t:aT)(hs:s.length<18446744073709551616)(h:jl r B (enc s.length++s++t) w):dz W 138 #[r] w λe O=>e=b5 (aX ⟨s.toArray⟩)∧jl r B t O∧fI r w O:=by
 obtain⟨hB,A,n,c,hK,hb,iS,iO⟩:=h;have hp:=nx s.length;have hl:(enc s.length++s).length=(enc s.length).length+s.length:=bd;obtain⟨E,mn⟩:=zZ hb iS ap;have hG:=Vc.sJ w B A n c _ hb (by have:=hK.lt;omega) iS iO;have c0:=hK.cell 0;obtain⟨k,HK⟩:=az ((enc s.length).length+s.length);rw[hl,<-HK.out] at E mn;have K2:1<=k:=by have:=HK.out;omega
 go_in;go_wp2_with fail;refine hG.mono ?_;rintro e w1 ⟨v,k',hv,rfl,H⟩;obtain⟨rfl,qY⟩:=hv.one (VV s t hs);rw[<-HK.out] at qY;subst qY;have hK1:=hK.grow H;have kM:=E.below (H.mono (by have:=hK.lt;omega));clear c0;have c0:=hK1.cell 0;have c1:=hK1.cell 1;have f0:=hK1.frozen 0;by_cases o9:c=k'
 ·rw[aA o9] at kM
  go_wp2;go_ret;exact⟨rfl,⟨hB,_,_,_,hK1.put 0 _,kM.setCell (p:=⟨r,0,none⟩) hB _,by omega,by omega⟩,(fI.dK H).put 0 _⟩
 ·rw[aB o9] at kM
  go_wp2;go_ret;exact⟨rfl,⟨hB,_,_,_,hK1.put 0 _,kM.setCell (p:=⟨r,0,none⟩) hB _,by omega,by omega⟩,(fI.dK H).put 0 _⟩
def xA:Nat->List UInt8->Option (Nat×List UInt8)
 | 0,_=>none
 | _+1,[]=>none
 | f+1,b::l=>if b.toNat<128 then some (b.toNat,l) else match xA f l with
   | none=>none
   | some (n,t)=>if n=0 then none else some (n*128+(b.toNat-128),t)
def BL(l:aT):Option (Nat×List UInt8):=match xA 10 l with
 | none=>none
 | some (n,t)=>if n<18446744073709551616 then some (n,t) else none
def BM(l:aT):Option (List UInt8×List UInt8):=match BL l with
 | none=>none
 | some (n,t)=>if n<=t.length then some (t.take n,t.drop n) else none
theorem Dv:∀(f n:Nat)(t:aT),(enc n).length<=f->xA f (enc n++t)=some (n,t)
 | 0,n,t,h=>by have:=nx n;omega
 | f+1,n,t,h=>by
   by_cases hn:n<128
   ·rw[j7 hn]
    show xA (f+1) (UInt8.ofNat n::t)=_;unfold xA;rw[nT ap,aA hn]
   ·rw[lB ap] at h ⊢
    have ih:=Dv f (n / 128) t (by simpa using h);show xA (f+1) (UInt8.ofNat (n % 128+128)::(enc (n / 128)++t))=_;unfold xA;rw[nT ap,aB ap,ih];dsimp only;rw[aB ap,show n / 128*128+(n % 128+128-128)=n by omega]
theorem z_:∀(f:Nat)(l:aT)(n:Nat)(t:aT),xA f l=some (n,t)->l=enc n++t
 | 0,_,_,_,h=>by cases h
 | _+1,[],_,_,h=>by cases h
 | f+1,b::l,n,t,h=>by
   unfold xA at h;split at h
   ·rename_i hb
    injection h with h;injection h with I G;subst I G;rw[j7 hb,UInt8.ofNat_toNat];rfl
   ·rename_i hb
    cases H:xA f l with
    | none=>rw[H] at h;cases h
    | some p=>
      obtain⟨m,t'⟩:=p;rw[H] at h;dsimp only at h;split at h;·cases h
      ·rename_i hm
       simp only[Option.some.injEq,Prod.mk.injEq] at h;obtain⟨rfl,rfl⟩:=h;have ih:=z_ f l m t' H;have lA:=b.toNat_lt;rw[lB ap,show (m*128+(b.toNat-128)) / 128=m by omega,show (m*128+(b.toNat-128)) % 128+128=b.toNat by omega,UInt8.ofNat_toNat,ih];rfl
def xB(t:aT)(h:n<18446744073709551616):BL (enc n++t)=some (n,t):=by unfold BL;rw[Dv 10 n t (eE h)];exact aA h
theorem qJ(h:BL l=some (n,t)):n<18446744073709551616∧l=enc n++t:=by
 unfold BL at h;cases H:xA 10 l with
 | none=>rw[H] at h;cases h
 | some p=>
   obtain⟨m,t'⟩:=p;rw[H] at h;dsimp only at h;split at h
   ·rename_i hm
    injection h with h;injection h with I G;subst I G;exact⟨hm,z_ 10 l m t' H⟩
   ·cases h
def RE(h:iF l n k):BL l=if k=0 then none else some (n,l.drop k):=by
 rcases h with ⟨I,⟨t,rfl⟩,rfl⟩|⟨I,rfl,rfl⟩
 ·rw[xB t I,aB (by have:=nx n;omega),List.drop_left' rfl]
 ·rw[aA rfl]
  cases H:BL l with
  | none=>rfl
  | some p=>exact absurd ⟨p.2,(qJ H).2.symm⟩ (I p.1 (qJ H).1)
def Dw(t:aT)(h:s.length<18446744073709551616):BM (enc s.length++s++t)=some (s,t):=by unfold BM;rw[bp,xB _ h];show (if s.length<=(s++t).length then some ((s++t).take s.length,(s++t).drop s.length) else none)=_;rw[aA (by simp),List.take_left' rfl,List.drop_left' rfl]
theorem ux(h:BM l=some (s,t)):s.length<18446744073709551616∧l=enc s.length++s++t:=by
 unfold BM at h;cases H:BL l with
 | none=>rw[H] at h;cases h
 | some p=>
   obtain⟨n,t'⟩:=p;rw[H] at h;dsimp only at h;split at h
   ·rename_i hn
    injection h with h;injection h with I G;subst I G;obtain⟨g1,g2⟩:=qJ H;rw[List.length_take_of_le hn];exact⟨g1,by rw[g2,bp,dt]⟩
   ·cases h
def RF(h:pA l t k):BM l=if k=0 then none else some (t,l.drop k):=by
 rcases h with ⟨I,⟨r,rfl⟩,rfl⟩|⟨I,rfl,rfl⟩
 ·rw[Dw r I,aB (by have:=nx t.length;omega),List.drop_left' (by simp)]
 ·rw[aA rfl]
  cases H:BM l with
  | none=>rfl
  | some p=>exact absurd ⟨p.2,(ux H).2.symm⟩ (I p.1 (ux H).1)
abbrev RS:=Option (List UInt8)
def kO(s:RS):Nat×RS:=match s with
 | none=>(0,none)
 | some l=>match BL l with
   | none=>(0,none)
   | some (n,t)=>(n,some t)
def gu(s:RS):Nat×RS:=if (kO s).1<=9223372036854775807 then kO s else (0,none)
def gb(m:Nat)(s:RS):Nat×RS:=if (gu s).1<=m then gu s else (0,none)
def gn(s:RS):List UInt8×RS:=match s with
 | none=>([],none)
 | some l=>match BM l with
   | none=>([],none)
   | some (x,t)=>(x,some t)
def nB(s:RS):Nat×RS:=match s with
 | some (b::t)=>(b.toNat,some t)
 | _=>(0,none)
def xC(t:aT)(h:n<18446744073709551616):kO (some (enc n++t))=(n,some t):=by unfold kO;dsimp only;rw[xB t h]
def iI(t:aT)(h:n<=9223372036854775807):gu (some (enc n++t))=(n,some t):=by unfold gu;rw[xC t ap];exact aA h
def iW{m:Nat}(t:aT)(h:n<=9223372036854775807)(hm:n<=m):gb m (some (enc n++t))=(n,some t):=by unfold gb;rw[iI t h];exact aA hm
def uy(t:aT)(h:s.length<18446744073709551616):gn (some (enc s.length++s++t))=(s,some t):=by unfold gn;dsimp only;rw[Dw t h]
def xD(s:RS):(kO s).1<=18446744073709551615:=by
 unfold kO;split;·exact bo _
 ·split
  ·exact bo _
  ·rename_i h
   exact Nat.le_of_lt_succ (qJ h).1
def Ge(s:RS):(gu s).1<=9223372036854775807:=by
 unfold gu;split;·assumption
 ·exact bo _
def BN(m:Nat)(s:RS):(gb m s).1<=m:=by
 unfold gb;split;·assumption
 ·exact bo _
def km(r B abp:Nat)(s:RS)(w:X):Prop:=B<=r∧∃(A:aU)(n c:Nat)(l:aT)(b:Bool),l.length<=abp∧eJ w r 237 #[Z A n c,aY b]∧Bytes w B A n l∧(n<=c∧c<=dG)∧s=if b=true then none else some l
theorem km.grow{r B abp:Nat}{s:RS}{w O:X}(h:km r B abp s w)(H:Grow w O):km r B abp s O:=by obtain⟨I,A,n,c,l,b,h0,G,L,h4⟩:=h;have:=G.lt;exact⟨I,A,n,c,l,b,h0,G.grow H,L.below (H.mono ap),h4⟩
theorem km.lt{r B abp:Nat}{s:RS}{w:X}(h:km r B abp s w):r<(w:Nat):=by obtain⟨I,A,n,c,l,b,h0,G,L,h4⟩:=h;exact G.lt
def km.of(h:jl r B l w)(hl:l.length<=abp):km r B abp (some l) w:=by obtain⟨I,A,n,c,G,L,h4⟩:=h;exact⟨I,A,n,c,l,false,hl,G,L,h4,rfl⟩
def KB(h:iF l n k):n<=18446744073709551615∧k<=l.length:=by
 rcases h with ⟨I,G,L⟩|⟨_,G,L⟩
 ·exact⟨by omega,by rw[L];exact G.length_le⟩
 ·omega
def KC(h:pA l t k):t.length<=l.length∧k<=l.length:=by
 rcases h with ⟨I,G,L⟩|⟨_,G,L⟩
 ·have:=G.length_le
  rw[bd] at this;omega
 ·rw[G];simp;omega
def BO(h:Bytes w B A n l)(iS:n<=c)(N:k<=n):Bytes w B (if c=k then A else A.map (·.add k)) (n-k) (l.drop k):=by have I:=Reads.cut (size:=1) (cap:=c) h (k:=k) N iS;rw[cM,<-cM k,<-pU,cM] at I;exact I
def uz(w:X)(r B abp:Nat)(s:RS)(h:km r B abp s w):dz W 141 #[r] w λe O=>e=b5 (ae ah ((kO s).1:Int))∧km r B abp (kO s).2 O∧fI r w O:=by
 obtain⟨⟨m,s'⟩,hq⟩:∃q,Hid (q=kO s):=⟨_,Q rfl⟩;rw[<-hq.out];dsimp only;obtain⟨hB,A,n,c,l,b,hl,hK,hb,⟨iS,iO⟩,rfl⟩:=h;have hG:=qG w B A n c _ hb ap;have c0:=hK.cell 0;have c1:=hK.cell 1;have f0:=hK.frozen 0;have f1:=hK.frozen 1;have hn:=hb.len;go_in;go_wp2_with fail;refine hG.mono ?_;rintro e w1 ⟨v,k,hv,rfl,rfl⟩;obtain⟨hv1,rK⟩:=KB hv;have bad:∀O,O=w.setCell (r,1) (aY true)->km r B abp none O∧fI r w O:=λO e=>by subst e;exact⟨⟨hB,A,n,c,l,true,hl,hK.put 1 _,hb.setCell (p:=⟨r,1,none⟩) hB _,⟨iS,iO⟩,rfl⟩,(fI.refl r w).put 1 _⟩
 rcases bC b with I|I
 ·subst I
  clear hv rK hG hl hn;go_wp2;go_ret;obtain⟨rfl,rfl⟩:=Prod.mk.inj hq.out;exact⟨rfl,bad _ rfl⟩
 ·subst I
  have hF:kO (some l)=if k=0 then (0,none) else (v,some (l.drop k)):=by
   unfold kO;dsimp only;rw[RE hv];by_cases N:k=0;·rw[aA N,aA N]
   ·rw[aB N,aB N]
  rw[aB cB] at hq;by_cases N:k=0
  ·subst N
   rw[aA rfl] at hF;clear hv rK hG hl hn;go_wp2;go_ret;obtain⟨rfl,rfl⟩:=Prod.mk.inj (hq.out.trans hF);exact⟨rfl,bad _ rfl⟩
  ·rw[aB N] at hF
   have dk:((k:Int) == 0)=false:=by simp;omega
   have E:=BO hb iS (k:=k) ap;have oL:k<=n:=by omega
   clear bad hv hG N;replace hn:=Q hn;replace hl:=Q hl;by_cases o9:c=k
   ·rw[aA o9] at E
    go_wp2;go_ret;obtain⟨rfl,rfl⟩:=Prod.mk.inj (hq.out.trans hF);exact⟨rfl,⟨hB,_,_,_,l.drop k,false,by rw[bO];have:=hl.out;omega,hK.put 0 _,E.setCell (p:=⟨r,0,none⟩) hB _,⟨by omega,by omega⟩,rfl⟩,(fI.refl r w).put 0 _⟩
   ·rw[aB o9] at E
    go_wp2;go_ret;obtain⟨rfl,rfl⟩:=Prod.mk.inj (hq.out.trans hF);exact⟨rfl,⟨hB,_,_,_,l.drop k,false,by rw[bO];have:=hl.out;omega,hK.put 0 _,E.setCell (p:=⟨r,0,none⟩) hB _,⟨by omega,by omega⟩,rfl⟩,(fI.refl r w).put 0 _⟩
def km.bad{s:RS}{O:X}(h:km r B abp s w)(e:O=w.setCell (r,1) (aY true)):km r B abp none O:=by obtain⟨hB,A,n,c,l,b,hl,hK,hb,iS,hs⟩:=h;subst e;exact⟨hB,A,n,c,l,true,hl,hK.put 1 _,hb.setCell (p:=⟨r,1,none⟩) hB _,iS,rfl⟩
def km.cells{s:RS}(h:km r B abp s w):(∃b,w.cell? (r,1)=some (aY b))∧w.frozen? (r,1)=false:=by obtain⟨hB,A,n,c,l,b,hl,hK,hb,iS,hs⟩:=h;exact⟨⟨b,hK.cell 1⟩,hK.frozen 1⟩
def NC(w:X)(r B abp:Nat)(s:RS)(h:km r B abp s w):dz W 139 #[r] w λe O=>e=b5 (J ((gu s).1:Int))∧km r B abp (gu s).2 O∧fI r w O:=by
 have hN:=uz w r B abp s h;clear h;unfold gu;obtain⟨⟨m,s1⟩,hq⟩:∃q,q=kO s:=⟨_,rfl⟩;rw[<-hq] at hN ⊢;clear hq;dsimp only at hN ⊢;obtain⟨⟨v,s'⟩,hq⟩:∃q:Nat×RS,Hid (q=if m<=9223372036854775807 then (m,s1) else (0,none)):=⟨_,Q rfl⟩;rw[<-hq.out];dsimp only;go_in;go_wp2_with fail;refine hN.mono ?_;rintro e w1 ⟨rfl,I,ho⟩;by_cases hb:m<=9223372036854775807
 ·have a65:decide ((9223372036854775807:Int)<(m:Int))=false:=aD ap
  have hw:IntKind.i64.wrap (m:Int)=(m:Int):=by rw[IntKind.wrap_i64];omega
  go_wp2;go_ret;obtain⟨rfl,rfl⟩:=Prod.mk.inj (hq.out.trans (aA hb));exact⟨rfl,I,ho⟩
 ·have a65:decide ((9223372036854775807:Int)<(m:Int))=true:=aC ap
  obtain⟨⟨b,c1⟩,f1⟩:=I.cells;replace I:=Q I;go_wp2;go_ret;obtain⟨rfl,rfl⟩:=Prod.mk.inj (hq.out.trans (aB hb));exact⟨rfl,I.out.bad rfl,ho.put 1 _⟩
def ND(w:X)(r B abp most:Nat)(s:RS)(h:km r B abp s w):dz W 140 #[r,J most] w λe O=>e=b5 (J ((gb most s).1:Int))∧km r B abp (gb most s).2 O∧fI r w O:=by
 have hN:=NC w r B abp s h;clear h;unfold gb;obtain⟨⟨m,s1⟩,hq⟩:∃q,q=gu s:=⟨_,rfl⟩;rw[<-hq] at hN ⊢;clear hq;dsimp only at hN ⊢;obtain⟨⟨v,s'⟩,hq⟩:∃q:Nat×RS,Hid (q=if m<=most then (m,s1) else (0,none)):=⟨_,Q rfl⟩;rw[<-hq.out];dsimp only;go_in;go_wp2_with fail;refine hN.mono ?_;rintro e w1 ⟨rfl,I,ho⟩;by_cases hb:m<=most
 ·have Ve:decide (most<m)=false:=aD ap
  go_wp2;go_ret;obtain⟨rfl,rfl⟩:=Prod.mk.inj (hq.out.trans (aA hb));exact⟨rfl,I,ho⟩
 ·have Ve:decide (most<m)=true:=aC ap
  obtain⟨⟨b,c1⟩,f1⟩:=I.cells;replace I:=Q I;go_wp2;go_ret;obtain⟨rfl,rfl⟩:=Prod.mk.inj (hq.out.trans (aB hb));exact⟨rfl,I.out.bad rfl,ho.put 1 _⟩
def IZ(w:X)(r B abp:Nat)(s:RS)(h:km r B abp s w):dz W 138 #[r] w λe O=>e=b5 (aX ⟨(gn s).1.toArray⟩)∧km r B abp (gn s).2 O∧fI r w O:=by
 obtain⟨⟨m,s'⟩,hq⟩:∃q,Hid (q=gn s):=⟨_,Q rfl⟩;rw[<-hq.out];dsimp only;obtain⟨hB,A,n,c,l,b,hl,hK,hb,⟨iS,iO⟩,rfl⟩:=h;have hG:=Vc.sJ w B A n c _ hb (by have:=hK.lt;omega) iS iO;have c0:=hK.cell 0;have hn:=hb.len;go_in;go_wp2_with fail;refine hG.mono ?_;rintro e w1 ⟨t,k,hv,rfl,H⟩;obtain⟨hv1,rK⟩:=KC hv;have hb:=hb.below (H.mono (by have:=hK.lt;omega));have hK:=hK.grow H;clear c0;have c0:=hK.cell 0;have c1:=hK.cell 1;have f0:=hK.frozen 0;have f1:=hK.frozen 1;have bad:∀O,O=w1.setCell (r,1) (aY true)->km r B abp none O∧fI r w O:=λO e=>by subst e;exact⟨⟨hB,A,n,c,l,true,hl,hK.put 1 _,hb.setCell (p:=⟨r,1,none⟩) hB _,⟨iS,iO⟩,rfl⟩,(fI.dK H).put 1 _⟩
 rcases bC b with I|I
 ·subst I
  clear hv hv1 rK hG hl hn;go_wp2;go_ret;obtain⟨rfl,rfl⟩:=Prod.mk.inj hq.out;exact⟨rfl,bad _ rfl⟩
 ·subst I
  have hF:gn (some l)=if k=0 then ([],none) else (t,some (l.drop k)):=by
   unfold gn;dsimp only;rw[RF hv];by_cases N:k=0;·rw[aA N,aA N]
   ·rw[aB N,aB N]
  rw[aB cB] at hq;by_cases N:k=0
  ·subst N
   rw[aA rfl] at hF;clear hv hv1 rK hG hl hn;go_wp2;go_ret;obtain⟨rfl,rfl⟩:=Prod.mk.inj (hq.out.trans hF);exact⟨rfl,bad _ rfl⟩
  ·rw[aB N] at hF
   have dk:((k:Int) == 0)=false:=by simp;omega
   have E:=BO hb iS (k:=k) ap;have oL:k<=n:=by omega
   clear bad hv hv1 hG N;replace hn:=Q hn;replace hl:=Q hl;by_cases o9:c=k
   ·rw[aA o9] at E
    go_wp2;go_ret;obtain⟨rfl,rfl⟩:=Prod.mk.inj (hq.out.trans hF);exact⟨rfl,⟨hB,_,_,_,l.drop k,false,by rw[bO];have:=hl.out;omega,hK.put 0 _,E.setCell (p:=⟨r,0,none⟩) hB _,⟨by omega,by omega⟩,rfl⟩,(fI.dK H).put 0 _⟩
   ·rw[aB o9] at E
    go_wp2;go_ret;obtain⟨rfl,rfl⟩:=Prod.mk.inj (hq.out.trans hF);exact⟨rfl,⟨hB,_,_,_,l.drop k,false,by rw[bO];have:=hl.out;omega,hK.put 0 _,E.setCell (p:=⟨r,0,none⟩) hB _,⟨by omega,by omega⟩,rfl⟩,(fI.dK H).put 0 _⟩
def RG(w:X)(r B abp:Nat)(s:RS)(h:km r B abp s w):dz W 79 #[r] w λe O=>e=b5 (.int .u8 ((nB s).1:Int))∧km r B abp (nB s).2 O∧fI r w O:=by
 obtain⟨⟨m,s'⟩,hq⟩:∃q,Hid (q=nB s):=⟨_,Q rfl⟩;rw[<-hq.out];dsimp only;obtain⟨hB,A,n,c,l,b,hl,hK,hb,⟨iS,iO⟩,rfl⟩:=h;have c0:=hK.cell 0;have c1:=hK.cell 1;have f0:=hK.frozen 0;have f1:=hK.frozen 1;have hn:=hb.len;have bad:∀O,O=w.setCell (r,1) (aY true)->km r B abp none O∧fI r w O:=λO e=>by subst e;exact⟨⟨hB,A,n,c,l,true,hl,hK.put 1 _,hb.setCell (p:=⟨r,1,none⟩) hB _,⟨iS,iO⟩,rfl⟩,(fI.refl r w).put 1 _⟩
 rcases bC b with I|I
 ·subst I
  clear hl hn;go_in;go_wp2;go_ret;obtain⟨rfl,rfl⟩:=Prod.mk.inj hq.out;exact⟨rfl,bad _ rfl⟩
 ·subst I
  rw[aB cB] at hq;by_cases N:n=0
  ·have dk:((n:Int) == 0)=true:=by simp[N]
   obtain rfl:l=[]:=List.length_eq_zero_iff.1 ap;replace hn:=Q hn;replace N:=Q N;clear hl;go_in;go_wp2;go_ret;obtain⟨rfl,rfl⟩:=Prod.mk.inj hq.out;exact⟨rfl,bad _ rfl⟩
  ·have dk:((n:Int) == 0)=false:=by simp;omega
   have E:=BO hb iS (k:=1) ap;obtain⟨ad,hl0,rfl,Y⟩:=hb.at_ (k:=0) ap;rw[show ad.add 0=ad from rfl] at Y;have h1n:0<n:=by omega
   have h1n':1<=n:=by omega
   have hF:nB (some l)=(l[0].toNat,some (l.drop 1)):=by
    cases l with
    | nil=>exact absurd hl0 (by simp)
    | cons b0 t=>rfl
   generalize l[0]=by0 at Y hF;clear bad;replace hn:=Q hn;replace hl:=Q hl;go_in;by_cases o9:c=1
   ·rw[aA o9] at E
    subst o9;obtain rfl:n=1:=by omega
    go_wp2;go_ret;obtain⟨rfl,rfl⟩:=Prod.mk.inj (hq.out.trans hF);exact⟨rfl,⟨hB,_,_,_,l.drop 1,false,by rw[bO];have:=hl.out;omega,hK.put 0 _,E.setCell (p:=⟨r,0,none⟩) hB _,⟨by omega,by omega⟩,rfl⟩,(fI.refl r w).put 0 _⟩
   ·rw[aB o9] at E
    go_wp2;go_ret;obtain⟨rfl,rfl⟩:=Prod.mk.inj (hq.out.trans hF);exact⟨rfl,⟨hB,_,_,_,l.drop 1,false,by rw[bO];have:=hl.out;omega,hK.put 0 _,E.setCell (p:=⟨r,0,none⟩) hB _,⟨by omega,by omega⟩,rfl⟩,(fI.refl r w).put 0 _⟩
def Gf(w:X)(r B abp:Nat)(s:RS)(h:km r B abp s w):dz W 197 #[r] w λe O=>e=b5 (aY s.isNone)∧w=O:=by
 obtain⟨hB,A,n,c,l,b,hl,hK,hb,iS,hs⟩:=h;have vq:s.isNone=b:=by rw[hs];cases b<;>rfl
 rw[vq];have c1:=hK.cell 1;clear hs vq;go_in;go_wp2;go_ret;exact⟨rfl,rfl⟩
def BP(w:X)(r B abp:Nat)(s:RS)(h:km r B abp s w):dz W 80 #[r] w λe O=>e=b5 (aY (decide (s=some [])))∧w=O:=by
 obtain⟨hB,A,n,c,l,b,hl,hK,hb,iS,hs⟩:=h;obtain⟨d,Hd⟩:=az (decide (s=some []));rw[<-Hd.out];have c0:=hK.cell 0;have c1:=hK.cell 1;have hn:=hb.len;rcases bC b with I|I
 ·subst I
  have hd:d=false:=by rw[Hd.out,hs];rfl
  subst hd;clear hs;go_in;go_wp2;go_ret;exact⟨rfl,rfl⟩
 ·subst I
  have hd:((n:Int) == 0)=d:=by
   rw[Hd.out,hs,aB cB,<-hn];cases l with
   | nil=>rfl
   | cons a t=>rw[aD (by simp),beq_eq_false_iff_ne,bD];omega
  clear hs;go_in;go_wp2;go_ret;exact⟨rfl,rfl⟩
def Dx(s:RS):(nB s).1<=255:=by
 unfold nB;split
 ·rename_i b t
  have:=b.toNat_lt;show b.toNat<=255;omega
 ·exact bo _
def KD(w:X)(r B abp:Nat)(s:RS)(h:km r B abp s w):dz W 141 #[r] w λe O=>∃(m:Nat)(s':RS),Hid (kO s=(m,s'))∧m<=18446744073709551615∧e=b5 (ae ah m)∧km r B abp s' O∧fI r w O:=(uz w r B abp s h).mono λe O ⟨I,G,L⟩=>⟨_,_,Q rfl,xD s,I,G,L⟩
def mO(w:X)(r B abp:Nat)(s:RS)(h:km r B abp s w):dz W 139 #[r] w λe O=>∃(m:Nat)(s':RS),Hid (gu s=(m,s'))∧m<=9223372036854775807∧e=b5 (J m)∧km r B abp s' O∧fI r w O:=(NC w r B abp s h).mono λe O ⟨I,G,L⟩=>⟨_,_,Q rfl,Ge s,I,G,L⟩
def lK(w:X)(r B abp most:Nat)(s:RS)(h:km r B abp s w):dz W 140 #[r,J most] w λe O=>∃(m:Nat)(s':RS),Hid (gb most s=(m,s'))∧m<=most∧e=b5 (J m)∧km r B abp s' O∧fI r w O:=(ND w r B abp most s h).mono λe O ⟨I,G,L⟩=>⟨_,_,Q rfl,BN most s,I,G,L⟩
def I_(w:X)(r B abp:Nat)(s:RS)(h:km r B abp s w):dz W 79 #[r] w λe O=>∃(m:Nat)(s':RS),Hid (nB s=(m,s'))∧m<=255∧e=b5 (.int .u8 m)∧km r B abp s' O∧fI r w O:=(RG w r B abp s h).mono λe O ⟨I,G,L⟩=>⟨_,_,Q rfl,Dx s,I,G,L⟩
end Go.Proofs.YtpeepcmdehhbgaaGreatDoor
