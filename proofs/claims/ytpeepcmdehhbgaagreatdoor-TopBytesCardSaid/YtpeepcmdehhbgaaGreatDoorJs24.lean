/- Bk3, Bk4, Bk5, Or1, Or2, Or3, Sy1, Sy2. -/
import Derived.Test.YtpeepcmdehhbgaaGreatDoorJs23
import Derived.Test.YtpeepcmdehhbgaaGreatDoorJs16
import Derived.Sort.Grow
import Derived.Shelf.SlSortCmp.WholeK
import Derived.Shelf.SlSortCmp.NoneTotal
set_option linter.all false
set_option maxRecDepth 100000
open Go.Value renaming int->ae,slice->Z,string->aX,bool->aY,agg->aZ,tuple->a_
open Go.Ending renaming returned->b5
open Go.IntKind renaming i64->af,u64->ah
open Go (J az aE aA aB aC aD ay aj am ap aw aL aK aJ aI aH aV aU aT aR aQ aP aO aN)
open Go.Proofs.Tryz renaming prog->W,underlying9->cW,underlying5->dm,underlying3->dp
open Go.Lib renaming hid->Q
open List renaming length_append->bd,append_nil->bm,length_take->bn,append_assoc->bp,take_succ_eq_append_getElem->br,eq_nil_of_length_eq_zero->bu,length_cons->bD,take_of_length_le->bH,map_append->bI,flatMap_cons->bJ,flatMap_append->bL,length_drop->bO,drop_eq_getElem_cons->bP,nil_append->ch,length_nil->cx,size_toArray->cy,not_mem_nil->cF,drop_of_length_le->cH,mem_cons->cI,drop_eq_nil_of_le->cR,length_set->dh
open Nat renaming le_refl->bh,zero_le->bo,lt_of_lt_of_le->bw,le_trans->bB,min_eq_left->cz,zero_add->cJ,mul_le_mul_right->cK
open Go.Builtin renaming zeroCells->bM
open Array renaming length_toList->bZ
open Option renaming map_some->df
open Go renaming Value->K,World->X,Calls->dz,Oper->dE,maxLen->dG
variable{w:X}{g k:Nat}{cur:aP}
namespace Go.Proofs.YtpeepcmdehhbgaaGreatDoor
open RowKit Hop
structure Qs where
 (a b c d:Nat)
def bkC(ep:Int)(sl:K)(z:Qs)(cu:K):Array K:=#[J ep,sl,J 1,.pointer (some ⟨z.a,0,none⟩),.pointer (some ⟨z.b,0,none⟩),.pointer (some ⟨z.c,0,none⟩),.pointer (some ⟨z.d,0,none⟩),cu]
def UC(sl:K)(l:List Dl):dW:=λw V=>Row w V 147 2 sl l.length (fm l)
theorem UC.framed(sl:K)(l:List Dl):eu (UC sl l):=λw O V h N=>Row.keep h λb hb _=>N b hb
theorem UC.nil(w:X)(V:aV):UC (Z none 0 0) [] w V:=Row.nil
def UD(s:Nat)(z:Qs)(ep:Int)(sl:K)(eP:List Dl)(l0:List abo.Ab)(k0:Int)(cu:K):List dW:=[Cell s 186 (bkC ep sl z cu),UC sl eP,abo.eh z.a l0 k0,abo.eh z.b [] 0,abo.eh z.c [] 0,abo.eh z.d [] 0]
def E4(s:Nat)(z:Qs)(ep:Int)(sl:K)(eP:List Dl)(l0:List abo.Ab)(k0:Int)(cu:K):dW:=dN (UD s z ep sl eP l0 k0 cu)
theorem BZ(s:Nat)(z:Qs)(ep:Int)(sl:K)(eP:List Dl)(l0:List abo.Ab)(k0:Int)(cu:K):eG (UD s z ep sl eP l0 k0 cu):=(((((eG.nil.cons (abo.eh.framed _ _ _)).cons (abo.eh.framed _ _ _)).cons (abo.eh.framed _ _ _)).cons (abo.eh.framed _ _ _)).cons (UC.framed _ _)).cons (Cell.framed _ _ _)
theorem E4.framed(s:Nat)(z:Qs)(ep:Int)(sl:K)(eP:List Dl)(l0:List abo.Ab)(k0:Int)(cu:K):eu (E4 s z ep sl eP l0 k0 cu):=dN.framed _ (BZ _ _ _ _ _ _ _ _)
def pq(gs:aQ)(i:Nat):K:=(gs[i]?.map λg => ((g:Nat):K)).getD (.pointer none)
def QA(gs:aQ):Array K:=#[(),ay,J 1,pq gs 0,pq gs 1,pq gs 2,pq gs 3,ay]
theorem O4(gs:aQ)(g:Nat)(h:gs.length<4):(QA gs).setIfInBounds (3+gs.length) ((g:K))=QA (gs++[g]):=by
 match gs,h with
 | [],_=>rfl
 | [a],_=>rfl
 | [a,b],_=>rfl
 | [a,b,c],_=>rfl
theorem O5(gs:aQ)(h:gs.length<4):(QA gs)[3+gs.length]?=some (.pointer none):=by
 match gs,h with
 | [],_=>rfl
 | [a],_=>rfl
 | [a,b],_=>rfl
 | [a,b,c],_=>rfl
def ZO(B:Nat)(u:K)(w:X):Prop:=∃g,u=((g:Nat):K)∧∃V:aV,(∀b,V b->B<=b∧b<(w:Nat))∧abo.eh g [] 0 w V
theorem S7(wr w:X)(hs:Grow wr w):dz W 257 #[] w λe O=>∃v,e=b5 v∧Grow w O∧ZO (wr:Nat) v O:=(abo.oS w).mono λe O ⟨I,G,L⟩=>⟨_,I,L,_,rfl,_,λb hb=>⟨by have:=hs.size;have:=hb.1;omega,hb.2⟩,G⟩
theorem B_(s:Nat)(cs:aP)(gs:aQ):eG (Cell s 186 cs::gs.map λg=>abo.eh g [] 0):=eG.cons (Cell.framed _ _ _) λS hS=>by obtain⟨g,_,rfl⟩:=List.mem_map.1 hS;exact abo.eh.framed _ _ _
theorem O6(w:X):dz W 198 #[] w λe O=>∃s z,e=b5 (((s:Nat):K))∧E4 s z 0 (Z none 0 0) [] [] 0 (Z none 0 0) O (New w O)∧Grow w O:=by
 have k257:∀(vs:aP)(w:X),(callFunc 257 vs).run W w=.ok (.enter 257 vs) w:=λvs w=>by go_simp
 have fu:=dT w (.cells (QA []) 186);have UF:=eJ.made w 186 (QA []);obtain⟨s,HS⟩:=az ((w:Nat):Nat);obtain⟨wa,lZ⟩:=az (w.alloc (.cells (QA []) 186):X);rw[<-lZ.out] at fu UF;rw[<-HS.out] at UF;have fN:Solo (λb=>(w:Nat)<=b) (dN (Cell s 186 (QA [])::([]:List Nat).map λg=>abo.eh g [] 0)) wa:=Solo.VA (V:=λb=>b=s) (λb hb=>by have:=fu.size;omega) ⟨λb=>b=s,λ_=>False,⟨rfl,UF⟩,trivial,λ_ h=>h,λ_ h=>h.elim,λ_ _ h=>h⟩ λb hb=>by have:=HS.out;have:=UF.lt;omega
 have HA2:Hid (wa=w.alloc (.cells #[(),ay,J 1,.pointer none,.pointer none,.pointer none,.pointer none,ay] 186)):=lZ;clear lZ;go_in;go_wp2_with fail;rw[<-HA2.out,<-HS.out];go_loopw [5] (λi wr=>∃gs:aQ,gs.length<=4∧i=J gs.length∧Solo (λb=>(w:Nat)<=b) (dN (Cell s 186 (QA gs)::gs.map λg=>abo.eh g [] 0)) wr∧dM (λb=>(w:Nat)<=b) w wr) (λi _=>4-(intOf i).toNat);case atStart=>exact⟨[],by decide,rfl,fN,dM.dK fu⟩
 case round=>
  obtain⟨gs,z8,rfl,hS,hj⟩:=hrel;by_cases N:gs.length<4
  ·have hF:=B_ s (QA gs) gs
   have hB:=hS.blk 0 rfl;have a4l:decide ((gs.length:Int)<4)=true:=aC ap;obtain⟨k,HK⟩:=az (gs.length:Nat);have Fy:=O5 gs N;rw[<-HK.out] at a4l N Fy ⊢;go_wp2_with fail;refine dJ rfl ?_;refine gi (λ_=>True) 7 rfl ?_;refine held 0 rfl trivial (λw1 E=>aM) ?_;refine held 1 rfl trivial (λw1 E=>aM) ?_;refine held 3 rfl trivial (λw1 E=>aM) ?_;refine held 4 rfl trivial (λw1 E=>aM) ?_;refine dY 2 rfl ?_;go_wp2_with fail;refine (S7 wr _ (Grow.refl wr).drew).mono ?_;rintro en w1 ⟨v10,rfl,H,hq⟩;replace H:=Below.trans (Grow.refl wr).drew H;go_wp2_with fail;refine⟨trivial,?_⟩;refine held 5 rfl trivial (λw1 E R T=>by go_simp;rw[aA (show (k:Int)<4 by omega)];go_simp;exact T) ?_;refine dY 6 rfl ?_;obtain⟨g,rfl,V,hV,hQ⟩:=hq;have ej:=(hS.join hF H hQ hV).puts 1 rfl (hF.cons (abo.eh.framed _ _ _)) (3+k) ((g:K));have hP:=(hS.Vy 0 rfl).1;rw[HK.out,O4 gs g (by have:=HK.out;omega),<-HK.out] at ej;have dV:=ej.perm (l':=Cell s 186 (QA (gs++[g]))::(gs++[g]).map λg=>abo.eh g [] 0) ((List.Perm.swap _ _ _).trans (List.Perm.cons _ (by rw[bI];exact (List.perm_append_singleton _ _).symm)));have wo:=(hj.trans (dM.dK H)).put (V:=λb=>(w:Nat)<=b) hP (3+k) ((g:K));have ky:=hB.grow H;have c0:=ky.cell (3+k);rw[Fy] at c0;have f0:=ky.frozen (3+k);clear hB Fy;obtain⟨w2,HW⟩:=az (w1.setCell ⟨s,3+k,none⟩ ((g:K)):X);rw[<-HW.out] at dV wo;have a4m:k+1<=4:=by have:=HK.out;omega
   go_wp2_with fail;refine⟨trivial,?_⟩;refine eU ?_;go_wp2_with fail;go_roundw;case rel=>exact⟨gs++[g],by rw[bd,<-HK.out];exact a4m,by rw[bd,<-HK.out];go_num,by rw[<-HW.out];exact dV,by rw[<-HW.out];exact wo⟩
   case measure=>simp[intOf];omega
  ·obtain⟨k,HK⟩:=az (gs.length:Nat)
   have h4:gs.length=4:=by omega
   obtain⟨g0,g1,g2,g3,rfl⟩:∃a b c d,gs=[a,b,c,d]:=by
    match gs,h4 with
    | [a,b,c,d],_=>exact⟨a,b,c,d,rfl⟩
   go_wp2;go_ret;obtain⟨_,U,hU,fS⟩:=hS;have Vx:dN (UC (Z none 0 0) []::Cell s 186 (bkC 0 (Z none 0 0) ⟨g0,g1,g2,g3⟩ (Z none 0 0))::[g0,g1,g2,g3].map λg=>abo.eh g [] 0) wr U:=⟨λ_=>False,U,UC.nil _ _,hU,λ_ h=>h.elim,λ_ h=>h,λ_ h=>h.elim⟩;exact⟨s,⟨g0,g1,g2,g3⟩,rfl,dN.wide _ wr U _ (λb hb=>fS b hb) (dN.perm (List.Perm.swap _ _ _) Vx),hj.below (B:=(w:Nat)) (λb hb=>hb) (bh _)⟩
theorem S8:(Tryz.prog.info? 37).map (λi=>(i.zero,i.size,i.bytes))=some (some (aZ #[(),(),()]),3,24):=by kernel_rfl
theorem YA:Elem W 81 37 3 24 (aZ #[(),(),()]):=⟨Tryz.underlying81,info_parts S8,rfl,by decide,by decide⟩
def UG(st:Nat)(z:Qs)(ep:Int)(l0:List abo.Ab)(k0:Int):dW:=λw V=>∃A c cu,E4 st z ep (Z A 0 c) [] l0 k0 cu w V
theorem UG.framed(st:Nat)(z:Qs)(ep:Int)(l0:List abo.Ab)(k0:Int):eu (UG st z ep l0 k0):=λw O V ⟨A,c,cu,h⟩ N=>⟨A,c,cu,E4.framed _ _ _ _ _ _ _ _ w O V h N⟩
open V
def ko(w O:X):Prop:=∃(q:Nat)(os:Array Obj),O=Sort.grow (w.drewN q) os
theorem ko.refl(w:X):ko w w:=⟨0,#[],by rw[Sort.grow_empty];rfl⟩
theorem ko.drew(w:X):ko w w.drew:=⟨1,#[],by rw[Sort.grow_empty];rfl⟩
theorem ko.alloc(w:X)(o:Obj):ko w (w.alloc o):=⟨0,#[o],by rw[Sort.alloc_eq_grow];rfl⟩
theorem ko.trans{a b c:X}(h:ko a b)(k:ko b c):ko a c:=by obtain⟨q,os,rfl⟩:=h;obtain⟨q',os',rfl⟩:=k;exact⟨q+q',os++os',by rw[show Sort.grow ((Sort.grow (a.drewN q) os).drewN q') os'=Sort.grow (Sort.grow ((a.drewN q).drewN q') os) os' from rfl,Sort.grow_grow,World.drewN_drewN]⟩
theorem ko.grow{a b:X}(h:ko a b):Grow a b:=by obtain⟨q,os,rfl⟩:=h;exact⟨rfl,rfl,rfl,by simp[Sort.grow,World.drewN],λk N=>by simp only[Sort.grow,World.drewN];exact Array.getElem?_append_left N⟩
def rh(a b:Int):Int:=if a<b then -1 else if b<a then 1 else 0
def Wr:List Int->Int
 | []=>0
 | x::l=>if x=0 then Wr l else x
theorem xP(w:X)(x:Int):dz W 294 #[J x] w λe O=>e=b5 (aY false)∧w=O:=by go_in;go_wp2;go_ret;exact⟨by simp,rfl⟩
theorem O7(w:X)(a b:Int):dz W 228 #[J a,J b] w λe O=>e=b5 (J (rh a b))∧w=O:=by
 unfold rh;by_cases I:a<b
 ·have d1:decide (a<b)=true:=aC I
  rw[aA I];go_in;go_wp2_with (go_at_call 294;refine (xP _ _).mono ?_;rintro e O ⟨rfl,rfl⟩);go_ret;exact⟨rfl,rfl⟩
 ·have d1:decide (a<b)=false:=aD I
  rw[aB I];by_cases G:b<a
  ·have d2:decide (b<a)=true:=aC G
   rw[aA G];go_in;go_wp2_with (go_at_call 294;refine (xP _ _).mono ?_;rintro e O ⟨rfl,rfl⟩);go_ret;exact⟨rfl,rfl⟩
  ·have d2:decide (b<a)=false:=aD G
   rw[aB G];go_in;go_wp2_with (go_at_call 294;refine (xP _ _).mono ?_;rintro e O ⟨rfl,rfl⟩);go_ret;exact⟨rfl,rfl⟩
theorem xQ(w:X)(x:Int):dz W 295 #[J x] w λe O=>e=b5 (aY false)∧w=O:=by go_in;go_wp2;go_ret;exact⟨by simp,rfl⟩
theorem O8(w:X)(a b:Int):dz W 229 #[J a,J b] w λe O=>e=b5 (J (rh a b))∧w=O:=by
 unfold rh;by_cases I:a<b
 ·have d1:decide (a<b)=true:=aC I
  rw[aA I];go_in;go_wp2_with (go_at_call 295;refine (xQ _ _).mono ?_;rintro e O ⟨rfl,rfl⟩);go_ret;exact⟨rfl,rfl⟩
 ·have d1:decide (a<b)=false:=aD I
  rw[aB I];by_cases G:b<a
  ·have d2:decide (b<a)=true:=aC G
   rw[aA G];go_in;go_wp2_with (go_at_call 295;refine (xQ _ _).mono ?_;rintro e O ⟨rfl,rfl⟩);go_ret;exact⟨rfl,rfl⟩
  ·have d2:decide (b<a)=false:=aD G
   rw[aB G];go_in;go_wp2_with (go_at_call 295;refine (xQ _ _).mono ?_;rintro e O ⟨rfl,rfl⟩);go_ret;exact⟨rfl,rfl⟩
theorem KX(w:X)(D:aV)(A:aU)(n c:Nat)(l:aN)(h:In w D 1 A n (l.map (Value.int .i64)))(hn:n<=1048576):dz W 227 #[Z A n c] w λe O=>e=b5 (J (Wr l))∧w=O:=by
 have rA:l.length=n:=by have:=h.1;simpa using this
 obtain⟨R,HR⟩:=az (Wr l:Int);rw[<-HR.out];go_in;go_wp2_with fail;go_loopw [8] (λi wr=>∃k:Nat,k<=n∧i=J k∧Wr (l.drop k)=R∧w=wr) (λi _=>n-(intOf i).toNat);case atStart=>exact⟨0,by omega,rfl,HR.out.symm,rfl⟩
 case round=>
  obtain⟨k,N,rfl,T,rfl⟩:=hrel;by_cases fS:k<n
  ·obtain⟨ad,u,rfl,_,hu,za⟩:=h.reads.at_ fS
   rw[List.getElem?_map,List.getElem?_eq_getElem ap] at hu;obtain rfl:=Option.some.inj hu;rw[bP ap,Wr] at T;generalize l[k]=z at za T;clear hu;by_cases hz:z=0
   ·subst hz
    rw[aA rfl] at T;have HR2:=Q T;clear T;go_wp2_with fail;go_roundw;case rel=>exact⟨k+1,by omega,by go_num,HR2.out,by trivial⟩
    case measure=>simp[intOf];omega
   ·rw[aB hz] at T
    subst T;have dz2:(z == 0)=false:=beq_eq_false_iff_ne.2 hz;go_wp2;go_ret;exact⟨rfl,rfl⟩
  ·obtain rfl:k=n:=by omega
   rw[cH ap] at T;have T:0=R:=T;subst T;go_wp2;go_ret;exact⟨rfl,rfl⟩
theorem O9(w:X)(u:K)(l:aN)(h:DY 1 l.length (l.map (Value.int .i64)) u w)(hn:l.length<=1048576):dz W 227 #[u] w λe O=>e=b5 (J (Wr l))∧ko w O:=by obtain⟨A,rfl,h⟩:=h;exact (KX w _ A _ _ l h hn).mono λe O ⟨I,G⟩=>⟨I,G▸ko.refl _⟩
theorem Gz{o:dE}{ρ:Operand->K}{x y z:Operand}{a b c:Int}(ho:o.op=.buildSlice 22 3 #[(0,x),(1,y),(2,z)])(Y:ρ x=J a)(hy:ρ y=J b)(hz:ρ z=J c):gE W (λu O=>ko w O∧DY 1 3 [J a,J b,J c] u O) ((execOp ρ o).run W w):=by obtain⟨dst,op,ty,pos,after,guard⟩:=o;simp only at ho;subst ho;exact gv (u := Z (some ⟨(w:Nat),0,none⟩) 3 3) (w:=w.alloc (.cells #[J a,J b,J c] 3)) (by go_simp) ⟨ko.alloc _ _,xN (eJ.made w _ _) rfl⟩
theorem Oa(w:X)(a b:Int):dz W 228 #[J a,J b] w λe O=>e=b5 (J (rh a b))∧ko w O:=(O7 w a b).mono λe O ⟨I,G⟩=>⟨I,by subst G;exact ko.refl _⟩
theorem Ws(w:X)(a b:Int):dz W 229 #[J a,J b] w λe O=>e=b5 (J (rh a b))∧ko w O:=(O8 w a b).mono λe O ⟨I,G⟩=>⟨I,by subst G;exact ko.refl _⟩
def E5(x y:Int×Int×Int):Int:=Wr [rh x.1 y.1,rh x.2.1 y.2.1,rh x.2.2 y.2.2]
theorem KY(x y:Int×Int×Int)(w:X):dz W 167 #[aZ #[J x.1,J x.2.1,J x.2.2],aZ #[J y.1,J y.2.1,J y.2.2]] w λe O=>e=b5 (J (E5 x y))∧∃q os',O=Sort.grow (w.drewN q) os':=by
 have g1:=ko.alloc w (.cells #[J x.1,J x.2.1,J x.2.2] 37);have b1:=eJ.made w 37 #[J x.1,J x.2.1,J x.2.2];obtain⟨xa,HX⟩:∃y:Nat,Hid (y=(w:Nat)):=⟨_,rfl⟩;obtain⟨wa,lZ⟩:=az (w.alloc (.cells #[J x.1,J x.2.1,J x.2.2] 37):X);have hz0:(wa:Nat)=xa+1:=by rw[lZ.out,HX.out];simp
 rw[<-lZ.out] at g1 b1;rw[<-HX.out] at b1;have g2:=ko.alloc wa (.cells #[J y.1,J y.2.1,J y.2.2] 37);have b2:=eJ.made wa 37 #[J y.1,J y.2.1,J y.2.2];obtain⟨ya,HY⟩:∃y:Nat,Hid (y=xa+1):=⟨_,rfl⟩;obtain⟨wb,HB_⟩:=az (wa.alloc (.cells #[J y.1,J y.2.1,J y.2.2] 37):X);rw[hz0,<-HY.out] at b2;rw[<-HB_.out] at g2 b2;have b1:=b1.grow g2.grow;go_in;go_wp2_with fail;rw[<-lZ.out,<-HX.out,<-HY.out,<-HB_.out];refine dJ rfl ?_;have gd:=ko.drew wb;refine gi (ko wb) 18 rfl ?_;refine held 0 rfl gd (λw1 E R T=>by have c0:=(b1.grow E.grow).cell 0;have c1:=(b1.grow E.grow).cell 1;have c2:=(b1.grow E.grow).cell 2;have c3:=(b2.grow E.grow).cell 0;have c4:=(b2.grow E.grow).cell 1;have c5:=(b2.grow E.grow).cell 2;go_simp;exact T) ?_;refine held 1 rfl gd (λw1 E R T=>by have c0:=(b1.grow E.grow).cell 0;have c1:=(b1.grow E.grow).cell 1;have c2:=(b1.grow E.grow).cell 2;have c3:=(b2.grow E.grow).cell 0;have c4:=(b2.grow E.grow).cell 1;have c5:=(b2.grow E.grow).cell 2;go_simp;exact T) ?_;refine held 2 rfl gd (λw1 E R T=>by have c0:=(b1.grow E.grow).cell 0;have c1:=(b1.grow E.grow).cell 1;have c2:=(b1.grow E.grow).cell 2;have c3:=(b2.grow E.grow).cell 0;have c4:=(b2.grow E.grow).cell 1;have c5:=(b2.grow E.grow).cell 2;go_simp;exact T) ?_;refine held 3 rfl gd (λw1 E R T=>by have c0:=(b1.grow E.grow).cell 0;have c1:=(b1.grow E.grow).cell 1;have c2:=(b1.grow E.grow).cell 2;have c3:=(b2.grow E.grow).cell 0;have c4:=(b2.grow E.grow).cell 1;have c5:=(b2.grow E.grow).cell 2;go_simp;exact T) ?_;refine held 5 rfl gd (λw1 E R T=>by have c0:=(b1.grow E.grow).cell 0;have c1:=(b1.grow E.grow).cell 1;have c2:=(b1.grow E.grow).cell 2;have c3:=(b2.grow E.grow).cell 0;have c4:=(b2.grow E.grow).cell 1;have c5:=(b2.grow E.grow).cell 2;go_simp;exact T) ?_;refine held 6 rfl gd (λw1 E R T=>by have c0:=(b1.grow E.grow).cell 0;have c1:=(b1.grow E.grow).cell 1;have c2:=(b1.grow E.grow).cell 2;have c3:=(b2.grow E.grow).cell 0;have c4:=(b2.grow E.grow).cell 1;have c5:=(b2.grow E.grow).cell 2;go_simp;exact T) ?_;refine held 7 rfl gd (λw1 E R T=>by have c0:=(b1.grow E.grow).cell 0;have c1:=(b1.grow E.grow).cell 1;have c2:=(b1.grow E.grow).cell 2;have c3:=(b2.grow E.grow).cell 0;have c4:=(b2.grow E.grow).cell 1;have c5:=(b2.grow E.grow).cell 2;go_simp;exact T) ?_;refine held 8 rfl gd (λw1 E R T=>by have c0:=(b1.grow E.grow).cell 0;have c1:=(b1.grow E.grow).cell 1;have c2:=(b1.grow E.grow).cell 2;have c3:=(b2.grow E.grow).cell 0;have c4:=(b2.grow E.grow).cell 1;have c5:=(b2.grow E.grow).cell 2;go_simp;exact T) ?_;refine held 10 rfl gd (λw1 E R T=>by have c0:=(b1.grow E.grow).cell 0;have c1:=(b1.grow E.grow).cell 1;have c2:=(b1.grow E.grow).cell 2;have c3:=(b2.grow E.grow).cell 0;have c4:=(b2.grow E.grow).cell 1;have c5:=(b2.grow E.grow).cell 2;go_simp;exact T) ?_;refine held 11 rfl gd (λw1 E R T=>by have c0:=(b1.grow E.grow).cell 0;have c1:=(b1.grow E.grow).cell 1;have c2:=(b1.grow E.grow).cell 2;have c3:=(b2.grow E.grow).cell 0;have c4:=(b2.grow E.grow).cell 1;have c5:=(b2.grow E.grow).cell 2;go_simp;exact T) ?_;refine held 12 rfl gd (λw1 E R T=>by have c0:=(b1.grow E.grow).cell 0;have c1:=(b1.grow E.grow).cell 1;have c2:=(b1.grow E.grow).cell 2;have c3:=(b2.grow E.grow).cell 0;have c4:=(b2.grow E.grow).cell 1;have c5:=(b2.grow E.grow).cell 2;go_simp;exact T) ?_;refine held 13 rfl gd (λw1 E R T=>by have c0:=(b1.grow E.grow).cell 0;have c1:=(b1.grow E.grow).cell 1;have c2:=(b1.grow E.grow).cell 2;have c3:=(b2.grow E.grow).cell 0;have c4:=(b2.grow E.grow).cell 1;have c5:=(b2.grow E.grow).cell 2;go_simp;exact T) ?_;refine dY 4 rfl ?_;go_wp2_with fail;refine (Oa _ x.1 y.1).mono ?_;rintro en u1 ⟨rfl,hq⟩;have q1:=gd.trans hq;clear hq;go_wp2_with fail;refine⟨q1,?_⟩;refine dY 9 rfl ?_;go_wp2_with fail;refine (Oa _ x.2.1 y.2.1).mono ?_;rintro en u2 ⟨rfl,hq⟩;have q2:=q1.trans hq;clear hq;go_wp2_with fail;refine⟨q2,?_⟩;refine dY 14 rfl ?_;go_wp2_with fail;refine (Ws _ x.2.2 y.2.2).mono ?_;rintro en u3 ⟨rfl,hq⟩;have q3:=q2.trans hq;clear hq;go_wp2_with fail;refine⟨q3,?_⟩;refine dY 15 rfl ?_;refine fV rfl (Gz (x := .tmp 9) (y := .tmp 14) (z := .tmp 19) rfl rfl rfl rfl) ?_;rintro v20 u4 ⟨q4,hb⟩;replace q4:=q3.trans q4;go_wp2_with fail;refine⟨q4,?_⟩;refine dY 16 rfl ?_;go_wp2_with fail;refine (O9 u4 v20 [rh x.1 y.1,rh x.2.1 y.2.1,rh x.2.2 y.2.2] hb (by simp)).mono ?_;rintro en w1 ⟨rfl,hq⟩;have H:=q4.trans hq;clear hq;go_wp2_with fail;refine⟨H,?_⟩;refine held 17 rfl H (λw1 E=>aM) ?_;refine eU ?_;go_wp2;go_ret;exact⟨rfl,(g1.trans g2).trans H⟩
def GA:Go.Shelf.Ren:=⟨λ|6=>166|15=>192|14=>226|28=>254|29=>255|20=>286|21=>287|22=>288|23=>289|24=>290|25=>291|26=>292|27=>293|46=>338|47=>313|48=>314|49=>339|50=>340|57=>372|n=>n,λ|22=>81|24=>37|25=>261|3=>3|39=>62|0=>0|53=>61|55=>42|4=>4|46=>340|45=>339|50=>344|5=>5|9=>9|66=>390|70=>393|76=>417|77=>418|n=>n,λ|n=>n⟩
theorem Ob:Go.Proofs.SlLaysF0.n6 W GA:={
 mixed:=by kernel_rfl
 f6:=⟨Tryz.f166.name,by decide,Tryz.func166.trans (congrArg some aw)⟩
 f14:=⟨Tryz.f226.name,by decide,Tryz.func226.trans (congrArg some aw)⟩
 f15:=Tryz.func192.trans (congrArg some aw)
 f20:=⟨Tryz.f286.name,by decide,Tryz.func286.trans (congrArg some aw)⟩
 f21:=⟨Tryz.f287.name,by decide,Tryz.func287.trans (congrArg some aw)⟩
 f22:=⟨Tryz.f288.name,by decide,Tryz.func288.trans (congrArg some aw)⟩
 f23:=⟨Tryz.f289.name,by decide,Tryz.func289.trans (congrArg some aw)⟩
 f24:=⟨Tryz.f290.name,by decide,Tryz.func290.trans (congrArg some aw)⟩
 f25:=⟨Tryz.f291.name,by decide,Tryz.func291.trans (congrArg some aw)⟩
 f26:=⟨Tryz.f292.name,by decide,Tryz.func292.trans (congrArg some aw)⟩
 f27:=⟨Tryz.f293.name,by decide,Tryz.func293.trans (congrArg some aw)⟩
 f28:=Tryz.func254.trans (congrArg some aw)
 f29:=Tryz.func255.trans (congrArg some aw)
 f46:=⟨Tryz.f338.name,by decide,Tryz.func338.trans (congrArg some aw)⟩
 f47:=Tryz.func313.trans (congrArg some aw)
 f48:=Tryz.func314.trans (congrArg some aw)
 f49:=⟨Tryz.f339.name,by decide,Tryz.func339.trans (congrArg some aw)⟩
 f50:=⟨Tryz.f340.name,by decide,Tryz.func340.trans (congrArg some aw)⟩
 f57:=⟨Tryz.f372.name,by decide,Tryz.func372.trans (congrArg some aw)⟩
 t0:=Tryz.underlying0
 a0:=Tryz.isAgg0
 z0:=Tryz.sizeOf0
 v0:=Tryz.zeroValue0
 t3:=dp
 a3:=Tryz.isAgg3
 z3:=Tryz.sizeOf3
 v3:=Tryz.zeroValue3
 t4:=Tryz.underlying4
 a4:=Tryz.isAgg4
 z4:=Tryz.sizeOf4
 v4:=Tryz.zeroValue4
 t5:=dm
 a5:=Tryz.isAgg5
 z5:=Tryz.sizeOf5
 v5:=Tryz.zeroValue5
 t9:=cW
 a9:=Tryz.isAgg9
 z9:=Tryz.sizeOf9
 v9:=Tryz.zeroValue9
 t22:=Tryz.underlying81
 a22:=Tryz.isAgg81
 z22:=Tryz.sizeOf81
 v22:=Tryz.zeroValue81
 t25:=Tryz.underlying261
 a25:=Tryz.isAgg261
 z25:=Tryz.sizeOf261
 v25:=Tryz.zeroValue261
 t39:=Tryz.underlying62
 a39:=Tryz.isAgg62
 z39:=Tryz.sizeOf62
 v39:=Tryz.zeroValue62
 t45:=Tryz.underlying339
 a45:=Tryz.isAgg339
 z45:=Tryz.sizeOf339
 v45:=Tryz.zeroValue339
 t46:=Tryz.underlying340
 a46:=Tryz.isAgg340
 z46:=Tryz.sizeOf340
 v46:=Tryz.zeroValue340
 t50:=Tryz.underlying344
 a50:=Tryz.isAgg344
 z50:=Tryz.sizeOf344
 v50:=Tryz.zeroValue344
 t53:=Tryz.underlying61
 a53:=Tryz.isAgg61
 z53:=Tryz.sizeOf61
 v53:=Tryz.zeroValue61
 t55:=Tryz.underlying42
 a55:=Tryz.isAgg42
 z55:=Tryz.sizeOf42
 v55:=Tryz.zeroValue42
 t66:=Tryz.underlying390
 a66:=Tryz.isAgg390
 z66:=Tryz.sizeOf390
 v66:=Tryz.zeroValue390
 t70:=Tryz.underlying393
 a70:=Tryz.isAgg393
 z70:=Tryz.sizeOf393
 v70:=Tryz.zeroValue393
 t76:=Tryz.underlying417
 a76:=Tryz.isAgg417
 z76:=Tryz.sizeOf417
 v76:=Tryz.zeroValue417
 t77:=Tryz.underlying418
 a77:=Tryz.isAgg418
 z77:=Tryz.sizeOf418
 v77:=Tryz.zeroValue418 }
def iR(x:Int×Int×Int):List K:=[J x.1,J x.2.1,J x.2.2]
def fG(l:List (Int×Int×Int)):List K:=l.flatMap iR
theorem jG(x:Int×Int×Int):(iR x).length=3:=rfl
theorem sa(l:List (Int×Int×Int)):(fG l).length=l.length*3:=ix iR 3 jG l
theorem uF(l:List (Int×Int×Int)):∀u∈fG l,u.oneCell'=true:=λu hu=>by obtain⟨x,_,Y⟩:=List.mem_flatMap.1 hu;simp only[iR,cI,cF,or_false] at Y;rcases Y with rfl|rfl|rfl<;>rfl
def CI(x y:Int×Int×Int):Bool:=decide (x.1<y.1)||(decide (x.1=y.1)&&(decide (x.2.1<y.2.1)||(decide (x.2.1=y.2.1)&&decide (x.2.2<y.2.2))))
theorem tq(x y:Int×Int×Int):CI x y=true↔(x.1<y.1∨(x.1=y.1∧(x.2.1<y.2.1∨(x.2.1=y.2.1∧x.2.2<y.2.2)))):=by simp[CI]
theorem xR(x y:Int×Int×Int):CI x y=false↔¬ (x.1<y.1∨(x.1=y.1∧(x.2.1<y.2.1∨(x.2.1=y.2.1∧x.2.2<y.2.2)))):=by rw[<-tq];simp
theorem li(a b:Int):(a<b∧rh a b=-1)∨(b<a∧rh a b=1)∨(a=b∧rh a b=0):=by
 unfold rh;by_cases I:a<b;·exact .inl ⟨I,aA I⟩
 ·by_cases G:b<a
  ·exact .inr (.inl ⟨G,by rw[aB I,aA G]⟩)
  ·exact .inr (.inr ⟨by omega,by rw[aB I,aB G]⟩)
theorem we(x y:Int×Int×Int):Go.Proofs.ltOf E5 x y=CI x y:=by
 unfold Go.Proofs.ltOf E5;cases hl:CI x y with
 | true=>
   rw[tq] at hl;rcases li x.1 y.1 with ⟨I,e1⟩|⟨I,e1⟩|⟨I,e1⟩<;>rcases li x.2.1 y.2.1 with ⟨G,e2⟩|⟨G,e2⟩|⟨G,e2⟩<;>rcases li x.2.2 y.2.2 with ⟨L,e3⟩|⟨L,e3⟩|⟨L,e3⟩<;>rw[e1,e2,e3]<;>first|decide|(exfalso;omega)
 | false=>
   rw[xR] at hl;rcases li x.1 y.1 with ⟨I,e1⟩|⟨I,e1⟩|⟨I,e1⟩<;>rcases li x.2.1 y.2.1 with ⟨G,e2⟩|⟨G,e2⟩|⟨G,e2⟩<;>rcases li x.2.2 y.2.2 with ⟨L,e3⟩|⟨L,e3⟩|⟨L,e3⟩<;>rw[e1,e2,e3]<;>first|decide|(exfalso;omega)
theorem ZP:Sort.SWO (Go.Proofs.ltOf E5) where
 irrefl x:=by rw[we,xR];omega
 trans x y z h k:=by rw[we] at *;rw[tq] at *;omega
 ntrans x y z h k:=by rw[we] at *;rw[xR] at *;omega
theorem xS(l:List (Int×Int×Int))(j:Nat)(hj:j<l.length*3):(fG l)[j]?=some (Sort.flatK iR 3 l.toArray)[j]!:=by
 have h:=flat_get iR 3 jG l (j / 3) (j % 3) ap (Nat.mod_lt _ ap);rw[show j / 3*3+j % 3=j by omega] at h;unfold fG;rw[h,Sort.get_flatK iR 3 l.toArray j (by simpa using hj)];have G:j / 3<l.length:=by omega
 have L:l.toArray[j / 3]! = l[j / 3]:=by simp[G]
 rw[L];have h4:j % 3<(iR l[j / 3]).length:=by rw[jG];exact Nat.mod_lt _ ap
 rw[List.getElem?_eq_getElem h4];simp[h4]
theorem KZ(w:X)(V:aV)(v:K)(l:List (Int×Int×Int))(T:Row w V 37 3 v l.length (fG l))(hl:l.length<4611686018427387904):dz W 166 #[v,.func (.func 167) #[] #[]] w λe O=>e=b5 (a_ #[])∧∃l':List (Int×Int×Int),l'.Perm l∧(∀i j(hi:i<l'.length)(hj:j<l'.length),i<j->CI l'[j] l'[i]=false)∧Row O V 37 3 v l'.length (fG l')∧dM V w O:=by
 obtain⟨fj,⟨rfl,h0⟩|⟨g,cap,cur,rfl,hV,H,kM,iO,jQ,j9⟩⟩:=T
 ·have hn:l=[]:=bu h0
  subst hn;refine (Go.Proofs.AnyF.slices_SortFunc_none Ob none 0 _ w).mono λe O ⟨I,G⟩=>⟨I,[],List.Perm.refl _,λi j hi=>absurd hi (by simp),⟨rfl,.inl ⟨rfl,rfl⟩⟩,?_⟩;rw[G];exact dM.dK (Grow.refl _)
 have z8:g<(w:Nat):=(Array.getElem?_eq_some_iff.1 H).1;have hH:Sort.HoldsK iR 3 w g 0 l.toArray:=λj hj=>by
  rw[Sort.size_flatK] at hj;have lR:j<l.length*3:=by simpa using hj
  have E:=xS l j lR;rw[<-j9,List.getElem?_take_of_lt lR,Array.getElem?_toList] at E;refine⟨?_,?_⟩
  ·unfold World.cell?
   simp only[H,cJ];exact E
  ·unfold World.frozen?
   simp only[H];simp
 have eg:∀args w,(callFunc 167 args).run W w=.ok (.enter 167 args) w:=λargs w=>by go_simp
 have hcon:=Go.Proofs.AnyQ.slices_SortFunc Ob 3 Tryz.isAgg37 Tryz.sizeOf37 iR jG (λx v hv=>by simp only[iR,cI,cF,or_false] at hv;rcases hv with rfl|rfl|rfl<;>rfl) E5 ZP 167 #[] g 0 cap l.toArray w eg (λm os dk _ x y=>KY x y _) hH z8 (by simpa using hl);change dz W 166 _ _ _ at hcon;rw[cy] at hcon;refine hcon.mono ?_;rintro e O ⟨he,d',n,os,hp,hs,rfl⟩;obtain⟨l',rfl⟩:∃l':List (Int×Int×Int),d'=l'.toArray:=⟨d'.toList,by simp⟩;have wu:l'.length=l.length:=by have:=hp.1;simpa using this
 have iZ:=Go.Proofs.size_sortWorldK_c iR 3 w g 0 n l'.toArray os;have Iu:(Go.Proofs.sortWorldK iR 3 w g 0 n l'.toArray os).heap[g]?=some (.cells (Sort.putCells id 0 (Sort.flatK iR 3 l'.toArray) cur) 37 (0,0)):=by show ((w.heap.modify g (Sort.onCells (Sort.putCells id 0 (Sort.flatK iR 3 l'.toArray))))++os)[g]?=_;rw[Array.getElem?_append_left (by simpa using z8),Array.getElem?_modify,aA rfl,H];rfl
 have Fb:(Sort.putCells id 0 (Sort.flatK iR 3 l'.toArray) cur).size=cur.size:=by simp[Sort.putCells]
 refine⟨he,l',?_,λi j hi hj wJ=>?_,⟨sa l',.inr ⟨g,cap,_,by rw[wu],hV,Iu,by omega,iO,by rw[Fb,jQ],?_⟩⟩,⟨rfl,rfl,rfl,iZ,λb hb Y2=>?_⟩⟩
 ·have:=hp.2.2
  simp only[List.extract_toArray,List.extract_eq_take_drop,List.drop_zero,Nat.sub_zero] at this;rwa [bH ap,bH ap] at this
 ·have:=hs i j (bo _) wJ ap
  rw[we] at this;simpa [hi,hj] using this
 ·apply List.ext_getElem?
  intro j;by_cases hj:j<l'.length*3
  ·rw[List.getElem?_take_of_lt hj,Array.getElem?_toList,xS l' j hj]
   have hjc:j<cur.size:=by rw[jQ];exact bw hj (cK 3 ap)
   simp only[Sort.putCells,Array.getElem?_mapIdx,Array.getElem?_eq_getElem hjc,df,bo,true_and,cJ,Sort.size_flatK,cy,hj,if_true,Nat.sub_zero,id_eq]
  ·rw[List.getElem?_eq_none (by rw[bn];omega),List.getElem?_eq_none (by rw[sa];omega)]
 ·have vn:b<(w.heap.modify g (Sort.onCells (Sort.putCells id 0 (Sort.flatK iR 3 l'.toArray)))).size:=by simpa using hb
  show ((w.heap.modify g (Sort.onCells (Sort.putCells id 0 (Sort.flatK iR 3 l'.toArray))))++os)[b]?=w.heap[b]?;rw[Array.getElem?_append_left vn,Array.getElem?_modify,aB (λe=>Y2 (by rw[<-e];exact hV))]
theorem K_(w:X)(n:Nat)(hn:n<=1048576):dz W 225 #[ay,J n] w λe O=>∃v,e=b5 v∧Row O (λb=>(w:Nat)<=b∧b<(O:Nat)) 37 3 v 0 []∧Grow w O:=by
 obtain⟨i,hi,hz,hs,hb⟩:=YA.info;have wv:IntKind.i64.wrap (n:Int)=(n:Int):=by rw[IntKind.wrap_i64];omega
 have sC:wrap64 (n:Int)=(n:Int):=by unfold wrap64;omega
 by_cases h0:n=0
 ·subst h0
  go_in;go_wp2;go_ret;exact⟨_,rfl,Row.nil,Grow.refl _⟩
 go_in;go_wp2_with (at_builtin;refine Lib.wpList_append_run _ rfl _ _ _ _ rfl _ _ rfl rfl _ _ (Lib.run_append_nil_zeros _ 81 3 _ 37 i (aZ #[(),(),()]) .i64 .i64 Tryz.underlying81 dp hi hz n ap ap ap (by rw[hb];omega)) ?_);have QG:=grownCap_ge w n 0 37;have mn:grownCap w n 0 37<=dG:=grownCap_le_maxLen w n 0 37 (by unfold dG;omega);generalize grownCap w n 0 37=cap at QG mn;have jQ:(bM #[Value.int .i64 0,(),()] n++bM #[Value.int .i64 0,(),()] (cap-n)).size=cap*3:=by rw[Array.size_append,size_zeroCells,size_zeroCells,show (#[Value.int .i64 0,(),()]:Array K).size=3 from rfl];omega
 generalize bM #[Value.int .i64 0,(),()] n++bM #[Value.int .i64 0,(),()] (cap-n)=cur at jQ;go_wp2;go_ret;refine⟨_,rfl,⟨rfl,.inr ⟨(w:Nat),cap,cur,rfl,⟨bh _,by simp⟩,?_,bo _,mn,jQ,by simp⟩⟩,Grow.drew ((Below.refl _ _).alloc (bh _) _)⟩;exact heap_alloc_new w _
theorem L3(w:X)(A:aU)(n c:Nat)(E:n<=c):dz W 168 #[Z A n c] w λe O=>e=b5 (Z A n n)∧w=O:=by
 go_in;cases A with
 | none=>
   go_wp2;go_ret;exact⟨rfl,rfl⟩
 | some a=>
   go_wp2;go_ret;exact⟨rfl,rfl⟩
set_option maxRecDepth 100000
set_option maxHeartbeats 1000000
theorem E6(w:X)(b:Nat)(A A2:aU)(c c2:Nat)(l m:List (Int×Int×Int))(hB:eJ w b 81 #[Z A l.length c,Z A2 m.length c2])(D D2:aV)(hI:In w D 3 A l.length (fG l))(It:In w D2 3 A2 m.length (fG m))(hn:l.length+m.length<=1048576):dz W 165 #[Z (some ⟨b,0,none⟩) 2 2] w λe O=>∃v,e=b5 v∧Row O (λb=>(w:Nat)<=b∧b<(O:Nat)) 37 3 v (l.length+m.length) (fG l++fG m)∧Grow w O:=by
 have e0:=hB.cell 0;have e1:=hB.cell 1;obtain⟨n,HN⟩:=az (l.length:Nat);obtain⟨k,HK⟩:=az (m.length:Nat);have YQ:=HN.out;have Iq:=HK.out;rw[<-YQ] at e0 hI hn hB ⊢;rw[<-Iq] at e1 It hn hB ⊢;have wv:IntKind.i64.wrap (n:Int)=(n:Int):=by rw[IntKind.wrap_i64];omega
 have sC:wrap64 (n:Int)=(n:Int):=by unfold wrap64;omega
 have Bg:IntKind.i64.wrap ((n:Int)+(k:Int))=((n+k:Nat):Int):=by rw[IntKind.wrap_i64];omega
 have hw4:wrap64 ((n:Int)+(k:Int))=((n+k:Nat):Int):=by unfold wrap64;omega
 have a5X:decide ((n:Int)<0)=false:=aD ap;have hG:=K_ w (n+k) hn;clear YQ Iq;go_in;go_wp2_with fail;go_loopw [3,11] (λs i wr=>((s=J 0∧i=J 0)∨(s=J n∧i=J 1)∨(s=J ((n+k:Nat):Int)∧i=J 2))∧w=wr) (λ_ i _=>2-(intOf i).toNat);case atStart=>exact⟨.inl ⟨rfl,rfl⟩,rfl⟩
 case round=>
  obtain⟨hsi,rfl⟩:=hrel;rcases hsi with ⟨rfl,rfl⟩|⟨rfl,rfl⟩|⟨rfl,rfl⟩
  ·go_wp2_with fail
   go_roundw;case rel=>exact⟨.inr (.inl ⟨by first|rfl|simp[wv]|simp[sC],rfl⟩),by trivial⟩
   case measure=>simp[intOf]
  ·go_wp2_with fail
   go_roundw;case rel=>exact⟨.inr (.inr ⟨by first|rfl|simp[Bg]|simp[hw4],rfl⟩),by trivial⟩
   case measure=>simp[intOf]
  ·go_wp2_with fail
   refine hG.mono ?_;rintro e w1 ⟨v1,rfl,lT,eD⟩;go_wp2_with fail;go_loopw [6,27] (λv i wr=>((i=J 0∧Row wr (λb=>(w:Nat)<=b∧b<(wr:Nat)) 37 3 v 0 [])∨(i=J 1∧Row wr (λb=>(w:Nat)<=b∧b<(wr:Nat)) 37 3 v n (fG l))∨(i=J 2∧Row wr (λb=>(w:Nat)<=b∧b<(wr:Nat)) 37 3 v (n+k) (fG l++fG m)))∧Grow w wr) (λ_ i _=>2-(intOf i).toNat);case atStart=>exact⟨.inl ⟨rfl,lT⟩,eD⟩
   case round=>
    obtain⟨hsi,gP⟩:=hrel;have e0:=(hB.grow gP).cell 0;have e1:=(hB.grow gP).cell 1;have Yf:=gP.size;rcases hsi with ⟨rfl,T⟩|⟨rfl,T⟩|⟨rfl,T⟩
    ·go_wp2_with (at_builtin;refine stay ?_)
     refine dI ?_;refine wW YA _ rfl (.tmp 31) (.tmp 32) rfl _ 0 [] rfl T _ A n c (fG l) rfl (hI.grow gP).reads (uF l) ap ?_;intro v2 w2 gS k7;have fk:Grow w w2:=Below.trans gP (k7.below (B:=(w:Nat)) (λb hb=>hb.1) Yf);have gS:=gS.mono (V':=(λb=>(w:Nat)<=b∧b<(w2:Nat))) λb hb=>hb.elim (λh=>⟨h.1,bw h.2 k7.size⟩) λh=>⟨bB Yf h.1,h.2⟩;simp only[cJ,ch] at gS;go_wp2_with fail;go_roundw;case rel=>exact⟨.inr (.inl ⟨rfl,gS⟩),fk⟩
     case measure=>simp[intOf]
    ·go_wp2_with (at_builtin;refine stay ?_)
     refine dI ?_;refine wW YA _ rfl (.tmp 31) (.tmp 32) rfl _ n (fG l) rfl T _ A2 k c2 (fG m) rfl (It.grow gP).reads (uF m) ap ?_;intro v2 w2 gS k7;have fk:Grow w w2:=Below.trans gP (k7.below (B:=(w:Nat)) (λb hb=>hb.1) Yf);have gS:=gS.mono (V':=(λb=>(w:Nat)<=b∧b<(w2:Nat))) λb hb=>hb.elim (λh=>⟨h.1,bw h.2 k7.size⟩) λh=>⟨bB Yf h.1,h.2⟩;go_wp2_with fail;go_roundw;case rel=>exact⟨.inr (.inr ⟨rfl,gS⟩),fk⟩
     case measure=>simp[intOf]
    ·go_wp2_with fail
     go_ret;exact⟨_,rfl,T,gP⟩
def dd:Int×Int×Int->List (Int×Int×Int)->List (Int×Int×Int)
 | _,[]=>[]
 | p,x::l=>if x=p then dd x l else x::dd x l
def Wt:List (Int×Int×Int)->List (Int×Int×Int)
 | []=>[]
 | x::l=>x::dd x l
set_option maxRecDepth 100000
set_option maxHeartbeats 1000000
abbrev I3:=Int×Int×Int
theorem L4{l:List I3}(h:l.length<2):Wt l=l:=by
 match l,h with
 | [],_=>rfl
 | [x],_=>rfl
theorem wh{M:List I3}(hB:eJ w g 37 cur)(ht:cur.toList.take (M.length*3)=fG M)(N:k<M.length):w.cell? ⟨g,k*3,none⟩=some (J M[k].1)∧w.cell? ⟨g,k*3+1,none⟩=some (J M[k].2.1)∧w.cell? ⟨g,k*3+2,none⟩=some (J M[k].2.2):=by
 have h:∀j,j<3->w.cell? ⟨g,k*3+j,none⟩=(iR M[k])[j]?:=λj hj=>by rw[hB.cell,<-Array.getElem?_toList,<-List.getElem?_take_of_lt (show k*3+j<M.length*3 by omega),ht];unfold fG;rw[flat_get iR 3 jG M k j N hj]
 exact⟨h 0 ap,h 1 ap,h 2 ap⟩
theorem GC(M:List I3)(N:k<M.length)(x:I3):fG (M.set k x)=(fG M).take (k*3)++iR x++(fG M).drop (k*3+3):=by rw[List.set_eq_take_append_cons_drop,aA N];unfold fG;rw[show k*3+3=(k+1)*3 by omega,ki iR 3 jG,ob iR 3 jG,bL,bJ,bp]
theorem ZQ{α:Type}{p q r:Prop}[Decidable p][Decidable q][Decidable r](h:¬ (p∧q∧r))(a b:α):(if p then if q then if r then a else b else b else b)=b:=by
 split
 ·split
  ·split
   ·next I G L=>exact absurd ⟨I,G,L⟩ h
   ·rfl
  ·rfl
 ·rfl
theorem E7{α:Type}(a x:List α)(i m:Nat)(h:i+x.length<=m)(ha:i<=a.length):(a.take i++x++a.drop (i+x.length)).take m=(a.take m).take i++x++(a.take m).drop (i+x.length):=by
 have hl:(a.take i++x).length=i+x.length:=by rw[bd,bn,cz ha]
 rw[List.take_append,hl,bH ap,List.take_take,cz ap,List.drop_take]
theorem Jf{V:aV}{n cap:Nat}{M:List I3}(hV:V g)(hB:eJ w g 37 cur)(hs:cur.size=cap*3)(ht:cur.toList.take (n*3)=fG M)(hM:M.length=n)(I:n<=cap)(G:cap<=dG):Row w V 37 3 (Z (some ⟨g,0,none⟩) n cap) n (fG M):=⟨by rw[sa,hM],.inr ⟨g,cap,cur,rfl,hV,hB,I,G,hs,ht⟩⟩
theorem C0(w:X)(V:aV)(v:K)(l:List I3)(T:Row w V 37 3 v l.length (fG l))(hn:l.length<=1048576):dz W 169 #[v] w λe O=>∃v',e=b5 v'∧Row O V 37 3 v' (Wt l).length (fG (Wt l))∧dM V w O:=by
 obtain⟨n,HN⟩:=az (l.length:Nat);by_cases G:n<2
 ·have hs:=L4 (l:=l) (by rw[<-HN.out];exact G)
  obtain⟨A,c,rfl,hI,E,hm⟩:=T.jL;rw[hs];generalize fG l=xs at T ⊢;rw[<-HN.out] at T hn ⊢;have d1:decide ((n:Int)<2)=true:=aC ap;go_in;go_wp2;go_ret;exact⟨_,rfl,T,dM.dK (Grow.refl _)⟩
 rw[<-HN.out] at T hn;obtain⟨hl,h0|⟨g,cap,cur,rfl,hV,H,kM,iO,jQ,j9⟩⟩:=T;·omega
 have d1:decide ((n:Int)<2)=false:=aD ap;have uW:eJ w g 37 cur:=H;obtain⟨f,HF⟩:=az (Wt l);rw[<-HF.out];clear hl;go_in;go_wp2_with fail;clear d1;go_loopw [3] (λi wr=>∃k:Nat,1<=k∧k<=n∧i=J k∧Hid (f=l.take k++dd (l.getD (k-1) (0,0,0)) (l.drop k))∧Grow w wr) (λi _=>n-(intOf i).toNat);case atStart=>exact⟨1,by omega,by omega,rfl,Q (by
  rw[HF.out];match l,HN.out with
  | [],h=>simp at h;omega
  | x::l,_=>rfl),Grow.refl _⟩
 case round=>
  obtain⟨k,iP,oL,rfl,Hf,gP⟩:=hrel;have Qk:=uW.grow gP;by_cases fS:k<n
  ·have Iq:k<l.length:=by rw[<-HN.out];exact fS
   have TT:k-1<l.length:=by omega
   have S9:=j9;rw[HN.out] at S9;obtain⟨x0,x1,x2⟩:=wh Qk S9 Iq;obtain⟨y0,y1,y2⟩:=wh Qk S9 TT;clear S9;obtain⟨x,HX⟩:=az (l[k]);obtain⟨y,HY⟩:=az (l[k-1]);rw[<-HX.out] at x0 x1 x2;rw[<-HY.out] at y0 y1 y2;obtain⟨q,HQ⟩:=az (k-1:Nat);have zd:IntKind.i64.wrap ((k:Int)-1)=((q:Nat):Int):=by rw[HQ.out,IntKind.wrap_i64];omega
   rw[<-HQ.out] at y0 y1 y2;have RV:q<n:=by have:=HQ.out;omega
   go_wp2_with fail;go_still_tail 9,(by kernel_rfl);by_cases JV:x=y
   ·have HD:Hid (f=l.take k++dd (l.getD (k+1-1) (0,0,0)) (l.drop (k+1))):=Q (by
     rw[Hf.out,bP Iq];have e1:l.getD (k-1) (0,0,0)=x:=by rw[List.getD_eq_getElem?_getD,List.getElem?_eq_getElem TT,<-HY.out,JV];rfl
     have e2:l.getD (k+1-1) (0,0,0)=x:=by rw[Nat.add_sub_cancel,List.getD_eq_getElem?_getD,List.getElem?_eq_getElem Iq,<-HX.out];rfl
     rw[e1,e2,<-HX.out];show _++(if x=x then _ else _)=_;rw[aA rfl])
    subst JV
    go_wp2_with fail
    go_loopw [3,5] (λa b wr=>∃(p j:Nat)(M:List I3)(cur':aP),a=J p∧b=J j∧(1<=j∧k+j<=n∧p+1<=k+j)∧M.length=n∧Hid (M.drop (k+j-1)=l.drop (k+j-1))∧Hid (f=M.take p++dd (l.getD (k+j-1) (0,0,0)) (l.drop (k+j)))∧eJ wr g 37 cur'∧cur'.size=cap*3∧Hid (cur'.toList.take (n*3)=fG M)∧dM (λb=>b=g) w wr) (λ_ b _=>n-k-(intOf b).toNat)
    case atStart=>exact⟨k,1,l,cur,rfl,rfl,⟨by omega,by omega,by omega⟩,HN.out.symm,Q rfl,HD,Qk.grow (Grow.refl _).drew,jQ,Q j9,dM.dK (gP.trans (Grow.refl _).drew)⟩
    case round=>
     obtain⟨p,j,M,cur',rfl,rfl,⟨wo,k7,mz⟩,hMl,HM,Hf2,lS,Fb,zl,hJ⟩:=hrel
     obtain⟨nk,YB⟩:=az (n-k:Nat)
     rw[<-YB.out]
     by_cases ht:j<nk
     ·have hkj:k+j<M.length:=by rw[hMl];have:=YB.out;omega
      have hkp:k+j-1<M.length:=by omega
      have Sb:=zl.out
      rw[<-hMl] at Sb
      obtain⟨q2,Wu⟩:=az (j-1:Nat)
      have nS:IntKind.i64.wrap ((j:Int)-1)=((q2:Nat):Int):=by rw[Wu.out,IntKind.wrap_i64];omega
      obtain⟨s0,s1,s2⟩:=wh lS Sb hkj
      obtain⟨t0,t1,t2⟩:=wh lS Sb hkp
      clear Sb
      obtain⟨abh,jS⟩:=az (M[k+j])
      obtain⟨abg,xL⟩:=az (M[k+j-1])
      rw[<-jS.out,show (k+j)*3=k*3+j*3 from Nat.add_mul _ _ _] at s0 s1 s2
      rw[<-xL.out,show (k+j-1)*3=k*3+q2*3 by have:=Wu.out;omega] at t0 t1 t2
      have d3:decide ((j:Int)<(nk:Int))=true:=aC ap
      have hq2n:q2<nk:=by have:=Wu.out;omega
      clear zd
      clear x0 x1 x2 y0 y1 y2
      go_wp2_with fail
      clear d3
      go_still_tail 9,(by kernel_rfl)
      by_cases hXY:abh=abg
      ·rw[<-hXY] at t0 t1 t2 xL
       go_wp2_with fail
       have hY:l.getD (k+j-1) (0,0,0)=abh:=by rw[List.getD_eq_getElem?_getD];have:=congrArg (λz=>z[0]?) HM.out;simp only[List.getElem?_drop,Nat.add_zero] at this;rw[<-this,List.getElem?_eq_getElem hkp,<-xL.out,hXY];rfl
       have hX:l.getD (k+j) (0,0,0)=abh:=by rw[List.getD_eq_getElem?_getD];have:=congrArg (λz=>z[1]?) HM.out;simp only[List.getElem?_drop,show k+j-1+1=k+j by omega] at this;rw[<-this,List.getElem?_eq_getElem hkj,<-jS.out];rfl
       have Z4:k+j<l.length:=by rw[<-HN.out];omega
       refine⟨⟨p,j+1,M,cur',rfl,by go_num,⟨by omega,by have:=YB.out;omega,by omega⟩,hMl,Q ?_,Q ?_,lS.grow (Grow.refl _).drew,Fb,zl,hJ.trans (dM.dK (Grow.refl _).drew)⟩,by simp[intOf];omega⟩
       ·have:=congrArg (List.drop 1) HM.out
        rw[List.drop_drop,List.drop_drop,show k+j-1+1=k+(j+1)-1 by omega] at this
        exact this
       ·rw[Hf2.out,bP Z4]
        have e3:l[k+j]=abh:=by rw[List.getD_eq_getElem?_getD,List.getElem?_eq_getElem Z4] at hX;exact hX
        rw[hY,e3,show k+(j+1)-1=k+j by omega,hX]
        show _++(if abh=abh then _ else _)=_
        rw[aA rfl];rfl
      ·have a4o:¬ (abh.1=abg.1∧abh.2.1=abg.2.1∧abh.2.2=abg.2.2):=λ⟨a,b,c⟩=>hXY (Prod.ext a (Prod.ext b c))
       refine ou rfl (v := aY true) (by go_simp;rw[ZQ a4o]) ?_
       have F9:=lS.grow (Grow.refl wr).drew
       have Yg:p*3+[Value.int .i64 abh.1,J abh.2.1,J abh.2.2].length<=cur'.size:=by rw[Fb];show p*3+3<=_;omega
       have hpc:¬ n<=p:=by omega
       clear t0 t1 t2
       go_wp2_with (refine pX rfl 37 (.tmp 51) (.tmp 50) rfl g (p*3) rfl [J abh.1,J abh.2.1,J abh.2.2] rfl F9 Yg rfl aw rfl ?_;intro w6 Wv Uw hs6;refine stay ?_)
       refine dI ?_
       go_wp2_with fail
       have hY:l.getD (k+j-1) (0,0,0)=abg:=by rw[List.getD_eq_getElem?_getD];have:=congrArg (λz=>z[0]?) HM.out;simp only[List.getElem?_drop,Nat.add_zero] at this;rw[<-this,List.getElem?_eq_getElem hkp,<-xL.out];rfl
       have Z4:k+j<l.length:=by rw[<-HN.out];have:=YB.out;omega
       have hX:l[k+j]=abh:=by have:=congrArg (λz=>z[1]?) HM.out;simp only[List.getElem?_drop,show k+j-1+1=k+j by omega] at this;rw[List.getElem?_eq_getElem hkj,List.getElem?_eq_getElem Z4,<-jS.out] at this;exact (Option.some.inj this).symm
       have hpM:p<M.length:=by omega
       refine⟨⟨p+1,j+1,M.set p abh,_,by go_num,by go_num,⟨by omega,by have:=YB.out;omega,by omega⟩,by rw[dh];exact hMl,Q ?_,Q ?_,Wv,?_,Q ?_,(hJ.trans (dM.dK (Grow.refl _).drew)).trans Uw⟩,by simp[intOf];omega⟩
       ·have:=congrArg (List.drop 1) HM.out
        rw[List.drop_drop,List.drop_drop,show k+j-1+1=k+(j+1)-1 by omega] at this
        rw[<-this,List.drop_set_of_lt ap]
       ·rw[Hf2.out,bP Z4,hY,hX,show k+(j+1)-1=k+j by omega]
        have e3:l.getD (k+j) (0,0,0)=abh:=by rw[List.getD_eq_getElem?_getD,List.getElem?_eq_getElem Z4,hX];rfl
        have e4:(M.set p abh).take (p+1)=M.take p++[abh]:=by rw[br (by rw[dh];exact hpM),List.take_set_of_le (bh _),List.getElem_set_self]
        rw[e3,e4]
        show _++(if abh=abg then _ else _)=_
        rw[aB hXY,bp];rfl
       ·simp only[cy,bd,bn,bO,bZ,bD,cx]
        have:p*3+3<=cur'.size:=Yg
        omega
       ·show List.take (n*3) (cur'.toList.take (p*3)++iR abh++cur'.toList.drop (p*3+(iR abh).length))=_
        have:p*3+3<=cur'.size:=Yg
        rw[E7 _ _ _ _ (by rw[jG];omega) (by rw[bZ];omega),zl.out,GC M hpM];rfl
     ·have d3:decide ((j:Int)<(nk:Int))=false:=aD ap
      have YT:p<n:=by omega
      have a4p:Hid (k+j=n):=Q (by have:=YB.out;omega)
      have za:∀ty,(Builtin.clear_ #[81] ty #[Z (some ⟨g,p*3,none⟩) (n-p) (cap-p)]).run W wr=.ok (a_ #[]) (wr.setCells g (p*3) (bM (aZ #[(),(),()]:K).cells (n-p)).toList):=λty=>by refine j_ YA (sG YA) (by simp[Value.cells,Value.oneCell']) wr ty g (p*3) (n-p) (cap-p) ap (λq hq=>?_) (λq hq=>lS.frozen _);rw[lS.cell,Array.getElem?_eq_getElem ap];rfl
      clear x0 x1 x2 y0 y1 y2
      go_wp2
      go_ret
      have hZl:(bM #[Value.int .i64 0,(),()] (n-p)).toList.length=(n-p)*3:=by simp[bM]
      generalize (bM #[Value.int .i64 0,(),()] (n-p)).toList=abe at hZl ⊢
      have mn:p*3+abe.length<=cur'.size:=by omega
      have hf:f=M.take p:=by rw[Hf2.out,a4p.out,cR (by rw[<-HN.out];exact bh _)];exact bm _
      have Qr:f.length=p:=by rw[hf,bn];omega
      refine⟨_,rfl,?_,hJ.imp (λb hb=>hb▸hV) |>.trans ((uo g (p*3) abe wr).imp λb hb=>hb▸hV)⟩
      rw[Qr]
      refine Jf hV (lS.part (p*3) abe mn) (by simp only[cy,bd,bn,bO,bZ];omega) ?_ Qr ap iO
      rw[hf,show ∀l:List K,l.toArray.toList=l from λ_=>rfl,bp,List.take_append_of_le_length (by simp;omega),List.take_take,Nat.min_self]
      have:=congrArg (List.take (p*3)) zl.out
      rw[List.take_take,cz ap] at this
      rw[this]
      exact ki iR 3 jG M p
   ·have a4q:¬ (x.1=y.1∧x.2.1=y.2.1∧x.2.2=y.2.2):=λ⟨a,b,c⟩=>JV (Prod.ext a (Prod.ext b c))
    refine ou rfl (v := aY false) (by go_simp;rw[ZQ a4q]) ?_;go_wp2_with fail;refine⟨⟨k+1,by omega,by omega,by go_num,Q ?_,gP.trans (Grow.refl _).drew⟩,by simp[intOf];omega⟩;rw[Hf.out,bP Iq];have e1:l.getD (k-1) (0,0,0)=y:=by rw[List.getD_eq_getElem?_getD,List.getElem?_eq_getElem TT,<-HY.out];rfl
    have e2:l.getD (k+1-1) (0,0,0)=x:=by rw[Nat.add_sub_cancel,List.getD_eq_getElem?_getD,List.getElem?_eq_getElem Iq,<-HX.out];rfl
    rw[e1,e2,br Iq,<-HX.out];show _++(if x=y then _ else _)=_;rw[aB JV,bp];rfl
  ·have a6n:Hid (k=n):=Q ap
   have hf:f=l:=by rw[Hf.out,a6n.out,cR (by rw[<-HN.out];exact bh _),bH (by rw[<-HN.out];exact bh _)];exact bm _
   go_wp2;go_ret;rw[hf,<-HN.out];exact⟨_,rfl,Jf hV Qk jQ j9 HN.out.symm kM iO,dM.dK gP⟩
end Go.Proofs.YtpeepcmdehhbgaaGreatDoor
