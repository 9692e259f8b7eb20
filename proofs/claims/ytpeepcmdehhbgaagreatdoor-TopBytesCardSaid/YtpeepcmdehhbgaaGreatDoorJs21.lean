/- En6, En7, Ml1, Ml2, Rz2, Ml3, Ml4, Ml5, Ml6, Le, Le2, Le3. -/
import Derived.Test.YtpeepcmdehhbgaaGreatDoorJs20
import Derived.Lib.ConvBytes
set_option linter.all false
set_option maxRecDepth 100000
open Go.Value renaming int->ae,slice->Z,string->aX,bool->aY,agg->aZ,tuple->a_
open Go.Ending renaming returned->b5
open Go.IntKind renaming i64->af,u64->ah
open Go (J az aE aA aB aC aD ay aj am ap aw aL aK aJ aI aH aV aU aT aR aQ aP aO aN)
open Go.Proofs.Tryz renaming prog->W
open Go.Lib renaming hid->Q
open List renaming length_append->bd,append_nil->bm,length_take->bn,append_assoc->bp,take_succ_eq_append_getElem->br,length_singleton->bv,length_cons->bD,getElem_mem->bF,take_of_length_le->bH,drop_eq_getElem_cons->bP,length_nil->cx,size_toArray->cy,drop_of_length_le->cH
open Nat renaming le_refl->bh,zero_le->bo,le_trans->bB,min_eq_left->cz
open Go renaming Value->K,World->X,Calls->dz,Addr->dA,TypeId->dC,Oper->dE,maxLen->dG
variable{r B abp:Nat}{w O:X}{l:aT}{U:aV}
namespace Go.Proofs.YtpeepcmdehhbgaaGreatDoor
open RowKit Hop V
theorem Wh(w:X)(r B:Nat)(s:aR)(t:aT)(hs:s.size<18446744073709551616)(h:jl r B (enc s.size++s.data.toList++t) w):dz W 138 #[r] w λe O=>e=b5 (aX s)∧jl r B t O∧fI r w O:=by have:=KA w r B s.data.toList t hs h;rwa [Array.toArray_toList] at this
theorem N_(d:Dl)(l:List Dl):o7 (d::l)=dB d++o7 l:=rfl
theorem qN(h:fI r w O):dM (λb=>b=r) w O:=dM.jA h rfl
theorem jl.just(h:jl r B l w)(hj:dM U w O)(hr:¬ U r)(hB:∀b,b<B->¬ U b):jl r B l O:=by obtain⟨I,A,n,c,G,L,h4⟩:=h;have:=G.lt;exact⟨I,A,n,c,hj.blk G hr,Reads.keep L λp hp=>World.cell?_of_block (hj.block p.block ap (hB _ hp)),h4⟩
theorem DX(w:X)(r B:Nat)(ds:List Dl)(t:aT)(h:jl r B (o7 ds++t) w)(hs:∀d∈ds,Small d)(hn:ds.length<=1048576):dz W 195 #[r,J ds.length] w λe O=>∃A c,e=b5 (Z A ds.length c)∧jl r B t O∧jM O (New w O) A ds.length ds∧ds.length<=c∧c<=dG∧fI r w O:=by
 have Y7:=h.lt;have uW:B<=r:=h.1;obtain⟨n,HN⟩:=az (ds.length);have pK:ds.length=n:=HN.out.symm;rw[<-HN.out] at hn ⊢;go_in;go_wp2_with fail;go_loopw [5,8] (λv i wr=>∃k:Nat,k<=n∧i=J k∧ot 147 2 mN (λ_ _ _=>True) (w:Nat) v (ds.take k) wr∧jl r B (o7 (ds.drop k)++t) wr∧fI r w wr) (λ_ i _=>n-(intOf i).toNat);case atStart=>exact⟨0,by omega,rfl,ot.nil (bh _),h,fI.refl r w⟩
 case round=>
  obtain⟨k,oL,rfl,hA,T,ho⟩:=hrel;obtain⟨A1,c1,sA⟩:=hA.slice;rw[bn,cz ap] at sA;subst sA;by_cases N:k<n
  ·have hkd:k<ds.length:=by omega
   have vq:ds.take (k+1)=ds.take k++[ds[k]]:=br hkd;have hdn:ds.drop k=ds[k]::ds.drop (k+1):=bP hkd;have sB:=hs _ (bF hkd);rw[hdn,N_] at T;have HS:=Q vq;clear vq hdn;generalize ds[k]=y at T sB HS;obtain⟨s,x⟩:=y;dsimp only[Small] at sB;have wI:jl r B (enc s.size++s.data.toList++(enc x++(o7 (ds.drop (k+1))++t))) wr:=by simpa only[dB,bp] using T
   have hT:=Wh wr r B s _ ap wI;go_wp2_with fail;refine hT.mono ?_;rintro e w1 ⟨rfl,lT,yQ⟩;have hN:=kj w1 r B x _ sB.2 lT;have Z3:=hA.just oq (qN yQ) (λb hb => .inl ap);go_wp2_with fail;refine hN.mono ?_;rintro e w2 ⟨rfl,gS,pN⟩;have qZ:=Z3.just oq (qN pN) (λb hb => .inl ap);go_wp2_with (at_builtin;refine stay ?_);refine dI ?_;refine u_ (b:=(s,x)) oQ iH (λa u hu=>rQ [a] u (by simpa [fm] using hu)) aj (.tmp 12) (.tmp 17) aj qZ (by rw[bn];omega) aj aj ?_;intro v2 w3 hA3 mz;have oM:fI r w w2:=fI.trans (fI.trans ho yQ) pN;have Mb:=oM.size;have S4:fI r w w3:=⟨mz.os.trans oM.os,mz.tape.trans oM.tape,mz.output.trans oM.output,bB Mb mz.size,λb hb jT=>(mz.block b ap ap).trans (oM.block b hb jT)⟩;have jN:=gS.just mz ap (λb hb=>by omega);go_wp2_with fail;go_roundw;case rel=>exact⟨k+1,by omega,by go_num,by rw[HS.out];exact hA3,jN,S4⟩
   case measure=>simp[intOf];omega
  ·obtain rfl:k=n:=by omega
   have hD:=hA.done ul;rw[bH ap] at hD;rw[cH ap] at T;obtain⟨A3,c3,e3,L,h4,h5,h6⟩:=hD;rw[pK] at e3 L h5;injection e3 with e3 e4 e5;subst e3 e5;go_wp2;go_ret;exact⟨A1,c1,rfl,T,L,h5,h6,ho⟩
theorem jl.put{y:Nat}(h:jl r B l w)(hy:y≠r)(hB:B<=y)(i:Nat)(u:K):jl r B l (w.setCell ⟨y,i,none⟩ u):=h.just (U:=λb=>b=y) (kD w y i u) (λe=>hy e.symm) λb hb e=>by omega
theorem KU(h:fI r w O)(hB:B<=r)(hs:B<=(w:Nat)):Below B w O:=fI.below h hB hs
def S5(e:En)(A:aU)(c:Nat):Array K:=#[J 1,J e.k,J e.ag,J e.sh,J e.sq,J e.ep,Z A e.ds.length c,aX e.se,J e.fr,J e.tg,(),(),ae ah 0,(),(),ay,(),()]
def jc(tag code:Int)(n:Nat):Array K:=#[J 2,(),(),(),(),(),ay,"",(),(),J tag,J code,ae ah n,(),(),ay,(),()]
theorem tn(w:X)(ρ:Operand->K)(o:dE)(ho:o.op=.alloc 45):(execOp ρ o).run W w=.ok (.value (.pointer (some ⟨(w:Nat),0,none⟩))) (w.alloc (.cells aJ 45)):=by obtain⟨dst,op,ty,pos,after,guard⟩:=o;simp only at ho;subst ho;go_simp
theorem km.just{s:RS}(h:km r B abp s w)(hj:dM U w O)(hr:¬ U r)(hB:∀b,b<B->¬ U b):km r B abp s O:=by obtain⟨I,A,n,c,l,b,h0,G,L,h4⟩:=h;have:=G.lt;exact⟨I,A,n,c,l,b,h0,hj.blk G hr,Reads.keep L λp hp=>World.cell?_of_block (hj.block p.block ap (hB _ hp)),h4⟩
theorem km.text{s:RS}(h:km r B abp s w):(⟨(gn s).1.toArray⟩:ByteArray).size<=abp:=by
 obtain⟨_,A,n,c,l,b,h0,_,_,_,hs⟩:=h;show (gn s).1.toArray.size<=abp;rw[cy];unfold gn;split;·exact bo _
 ·rename_i l2
  cases b
  ·have e:l2=l:=Option.some.inj hs
   subst e;cases E:BM l2 with
   | none=>exact bo _
   | some p=>
     have:=(ux (show BM l2=some (p.1,p.2) from E)).2;have L:=congrArg List.length this;simp only[bd] at L;dsimp only;omega
  ·cases hs
def mg:Nat->RS->List Dl×RS
 | 0,s=>([],s)
 | n+1,s=>((⟨(gn s).1.toArray⟩,(kO (gn s).2).1)::(mg n (kO (gn s).2).2).1,(mg n (kO (gn s).2).2).2)
theorem AA:∀(n:Nat)(s:RS),(mg n s).1.length=n
 | 0,_=>rfl
 | n+1,s=>by
   show _+1=_;rw[AA n]
def DSm(abp:Nat)(ds:List Dl):Prop:=∀d∈ds,d.1.size<=abp∧d.2<=18446744073709551615
theorem Wi(w:X)(r B abp n:Nat)(s:RS)(h:km r B abp s w)(hn:n<=1048576):dz W 195 #[r,J n] w λe O=>∃z:Option dA×Nat×List Dl,e=b5 (Z z.1 n z.2.1)∧(z.2.2=(mg n s).1∧DSm abp z.2.2)∧km r B abp (mg n s).2 O∧jM O (New w O) z.1 n z.2.2∧n<=z.2.1∧z.2.1<=dG∧fI r w O:=by
 obtain⟨⟨DS,S'⟩,hq⟩:∃q,Hid (q=mg n s):=⟨_,Q rfl⟩;rw[<-hq.out];dsimp only;have Y7:=h.lt;have uW:B<=r:=h.1;go_in;go_wp2_with fail;go_loopw [5,8] (λv i wr=>∃(k:Nat)(ds:List Dl)(s1:RS),k<=n∧i=J k∧ds.length=k∧(DSm abp ds∧Hid ((DS,S')=(ds++(mg (n-k) s1).1,(mg (n-k) s1).2)))∧ot 147 2 mN (λ_ _ _=>True) (w:Nat) v ds wr∧km r B abp s1 wr∧fI r w wr) (λ_ i _=>n-(intOf i).toNat);case atStart=>exact⟨0,[],s,by omega,rfl,rfl,⟨λd hd=>absurd hd (by simp),Q hq.out⟩,ot.nil (bh _),h,fI.refl r w⟩
 case round=>
  obtain⟨k,ds,s1,oL,rfl,pK,⟨tS,H⟩,hA,T,ho⟩:=hrel;obtain⟨A1,c1,sA⟩:=hA.slice;rw[pK] at sA;subst sA;replace pK:=Q pK;replace tS:=Q tS;by_cases N:k<n
  ·have hT:=IZ wr r B abp s1 T
   have iZ:=Q T.text;go_wp2_with fail;refine hT.mono ?_;rintro e w1 ⟨rfl,lT,yQ⟩;have hN:=uz w1 r B abp _ lT;have Z3:=hA.just oq (qN yQ) (λb hb => .inl ap);go_wp2_with fail;refine hN.mono ?_;rintro e w2 ⟨rfl,gS,pN⟩;have qZ:=Z3.just oq (qN pN) (λb hb => .inl ap);go_wp2_with (at_builtin;refine stay ?_);refine dI ?_;refine u_ (b:=(⟨(gn s1).1.toArray⟩,(kO (gn s1).2).1)) oQ iH (λa u hu=>rQ [a] u (by simpa [fm] using hu)) aj (.tmp 12) (.tmp 17) aj qZ (by rw[pK.out];omega) aj aj ?_;intro v2 w3 hA3 mz;have oM:fI r w w2:=fI.trans (fI.trans ho yQ) pN;have Mb:=oM.size;have S4:fI r w w3:=⟨mz.os.trans oM.os,mz.tape.trans oM.tape,mz.output.trans oM.output,bB Mb mz.size,λb hb jT=>(mz.block b ap ap).trans (oM.block b hb jT)⟩;have jN:=gS.just mz ap (λb hb=>by omega);go_wp2_with fail;exact⟨⟨k+1,ds++[(⟨(gn s1).1.toArray⟩,(kO (gn s1).2).1)],(kO (gn s1).2).2,by omega,by go_num,by rw[bd,pK.out];rfl,⟨λd hd=>by
    rcases List.mem_append.1 hd with hd|hd
    ·exact tS.out d hd
    ·rw[List.mem_singleton.1 hd];exact⟨iZ.out,xD _⟩,Q (by rw[H.out,show n-k=(n-(k+1))+1 by omega];show (ds++_::_,_)=_;rw[bp];rfl)⟩,hA3,jN,S4⟩,by simp[intOf];omega⟩
  ·obtain rfl:k=n:=by omega
   have hD:=hA.done ul;obtain⟨A3,c3,e3,L,h4,h5,h6⟩:=hD;rw[pK.out] at e3 L h5;injection e3 with e3 e4 e5;subst e3 e5;go_wp2;go_ret;have e:=H.out;rw[Nat.sub_self] at e;obtain⟨e1,e2⟩:=Prod.mk.inj e;rw[show (mg 0 s1).1=[] from rfl,bm] at e1;subst e1;rw[show S'=s1 from e2];first|exact⟨(A1,c1,DS),rfl,⟨rfl,tS.out⟩,T,L,h5,h6,ho⟩|exact⟨A1,c1,rfl,DS,⟨rfl,tS.out⟩,T,L,h5,h6,ho⟩
theorem BV(w:X)(r B abp:Nat)(s:RS)(h:km r B abp s w):dz W 138 #[r] w λe O=>∃(x:aT)(s':RS),Hid (gn s=(x,s'))∧x.length<=abp∧e=b5 (aX ⟨x.toArray⟩)∧km r B abp s' O∧fI r w O:=(IZ w r B abp s h).mono λe O ⟨I,G,L⟩=>⟨_,_,Q rfl,by have:=h.text;rw[<-cy];exact this,I,G,L⟩
def ZK(e:En):List UInt8:=[UInt8.ofNat 1]++enc (pg e).length++pg e
def Wj(tag code:Int)(n:Nat):List UInt8:=[UInt8.ofNat 2]++enc tag.toNat++enc code.toNat++enc n
theorem vZ{e:En}(h:e.Ok):(pg e).length<=9000:=by
 obtain⟨⟨I,G⟩,L⟩:=h;have e1:=eE (n:=e.fr.toNat) ap;have e2:=eE (n:=e.tg.toNat) ap;unfold pg;rcases L with L|L
 ·rw[aB (by rw[L.1];decide)]
  have e3:=BU e.ds (Jc L);obtain⟨_,_,ha,hs,hq,he,hn,_⟩:=L;have e4:=qb [e.ag.toNat,e.sh.toNat,e.sq.toNat,e.ep.toNat,e.ds.length] (by intro n hn;simp at hn;omega);simp only[bd,bv];simp only[bD,cx] at e4;omega
 ·rw[aA L.1]
  obtain⟨_,_,_,_,_,_,_,iZ⟩:=L;have e3:=eE (n:=e.se.size) ap;have e4:e.se.data.toList.length=e.se.size:=rfl;simp only[bd,bv];omega
theorem pD(w:X)(e:dC)(s:aR):Grow w (Lib.bytesWorld w e s):=⟨rfl,rfl,rfl,by rw[Lib.bytesWorld_size];omega,λi hi=>Lib.bytesWorld_at_old w e s i hi⟩
theorem rG(w:X)(e:dC)(s:aR)(hs:s.size<=1099511627776):eM s.data.toList (Z (some ⟨(w:Nat),0,none⟩) s.size (grownCap w s.size 0 e)) (Lib.bytesWorld w e s):=by
 refine⟨_,_,_,rfl,⟨by simp[kz],λ_=>⟨_,rfl,by rw[Lib.bytesWorld_size];simp,λj u hu=>?_⟩⟩,grownCap_ge w s.size 0 e,grownCap_le_maxLen w s.size 0 e (by unfold dG;omega)⟩;obtain⟨hj,rfl⟩:=Bm hu;have qC:(⟨(w:Nat),0,none⟩:dA).add j=⟨(w:Nat),j,none⟩:=by unfold Addr.add;split<;>simp_all
 rw[qC,Lib.bytesWorld_cell w e s j hj];have lR:j<s.data.size:=by simpa using hj
 simp[List.getD,Array.getElem?_eq_getElem lR]
end Go.Proofs.YtpeepcmdehhbgaaGreatDoor
namespace Go.Proofs.YtpeepcmdehhbgaaGreatDoor
open RowKit Hop
def ZL(t:Int)(p:Bool)(a had:Int)(best:K)(n:Int):Array K:=#[J t,J 1,aY p,aY false,aY false,aY false,aY false,aY false,aY false,aY false,J a,(),(),(),(),(),(),(),J had,best,J n]
def O0(v:Nat)(t:Int)(p:Bool)(a had n:Int):dW:=λw V=>∃A:aU,Cell v 213 (ZL t p a had (Z A 0 0) n) w V
theorem O0.framed(v:Nat)(t:Int)(p:Bool)(a had n:Int):eu (O0 v t p a had n):=λw O V ⟨A,h⟩ N=>⟨A,Cell.framed v _ _ w O V h N⟩
end Go.Proofs.YtpeepcmdehhbgaaGreatDoor
