/- Wl5, Sy3, Wl6, Wl7, Wl8, Wl9, Wla, Wlb, Wlc, Wld, Wle, Wlf, Wlg, Wlh, Wli, Wlj, Wlk, Wll, Wlm, Pl1, Pl2, Pl3, Pl4, Pl5, Pl6, Pl7, Pl8, Pl9, Wg1, Wg2, Wn1, Wn2, Wn3, Wg3, Sy4, Cl1, Cl2, Cl3, Wg4, Cl4, Cl5, Cl6, Cl7, Cl8, So1, So2, So3, So4, So5, So6, So7, So8. -/
import Derived.Test.YtpeepcmdehhbgaaGreatDoorJr04
set_option linter.all false
set_option maxRecDepth 100000
open Go.Value renaming int->ae,slice->Y,string->aX,bool->aY,agg->aZ,tuple->a_
open Go.Ending renaming returned->b5
open Go.IntKind renaming i64->af,u64->ah
open Go (J az aE aA aB aC aD ay aj am ap aw aL aK aJ aI aH aV aU aT aR aQ aP aO aN)
open Go.Proofs.Tryz renaming prog->N,underlying45->bG,underlying77->bZ
open Go.Lib renaming hid->Q
open List renaming length_append->bd,perm_append_comm->bg,length_map->bj,append_nil->bm,length_take->bn,append_assoc->bp,eq_nil_of_length_eq_zero->bv,length_singleton->bw,length_cons->bC,range->bF,take_of_length_le->bH,map_append->bM,flatMap_cons->bN,drop_eq_getElem_cons->bR,mem_cons_of_mem->bV,mem_of_mem_take->bY,mem_cons->b_,length_nil->cx,mem_cons_self->cy,drop_of_length_le->cB,nil_append->cC,map_congr_left->cP,drop_eq_nil_of_le->cT,replicate->cU,mem_map_of_mem->cW,mem_of_mem_drop->da,filter_eq_self->de,length_filter_le->df,length_range->di,length_set->dq,getElem_map->dt
open Nat renaming le_of_ble_eq_true->bf,le_refl->bh,zero_le->bo,lt_of_lt_of_le->bu,le_trans->bA,eq_zero_or_pos->cn,zero_add->cL,mul_one->cO,le_succ_of_le->dC
open Bool renaming and_eq_true->bP
open Int renaming toNat_natCast->cG,toNat_of_nonneg->cQ,natCast_nonneg->dm
open Go renaming Value->E,World->G,Calls->dF,Addr->dG,TypeId->dH,Oper->dJ,maxLen->dL
open Go.Hop (Bl)
open Go.Proofs.YtpeepcmdehhbgaaGreatDoor (Dl En Ms Vs Wl jy lZ)
variable{i n M aeu B t nr c g aeq Bd k na aev f aet a tg r node nd code sq:Nat}{w w0 O:G}{x:Wl}{l:List Bl}{V D:aV}{d:Dl}{m:Ms}{e:En}{es:List En}{ms:jy}{s s':Vs}{eW:List Dl}{tr:List (lZ×(Nat×Nat))}{args:aP}{rl al dl:aQ}{ac:aN}
namespace Go.Proofs.YtpeepcmdehhbgaaGreatDoor
open RowKit Hop V
structure Ev where
 (why node code:Int) (id:lZ) (n:Nat) (bag:Int)
def Ev.zero:Ev:=⟨0,0,0,(0,0,0),0,0⟩
def li(e:Ev):Array E:=#[J e.why,J e.node,J e.code,J e.id.1,J e.id.2.1,J e.id.2.2,ae ah e.n,J e.bag]
structure Ac where
 (k a b n:Int) (s:aR)
def jz(a:Ac):Array E:=#[J a.k,J a.a,J a.b,J a.n,aX a.s]
def Wl.jQ(x:Wl)(i:Nat)(y:Ag):Wl:={ x with ag:=at_ x.ag i y }
def Wl.rF(x:Wl)(i:Nat)(y:Rp):Wl:={ x with rp:=at_ x.rp i y }
theorem qK.jQ{P:nt}{x:Wl}(h:qK P x)(i:Nat)(y:Ag):qK P (x.jQ i y):=⟨h.n,h.r,h.a,h.d,h.c,h.m⟩
theorem qK.rF{P:nt}{x:Wl}(h:qK P x)(i:Nat)(y:Rp):qK P (x.rF i y):=⟨h.n,h.r,h.a,h.d,h.c,h.m⟩
section
variable{P:nt}{f:FuncId}{ι:Type}{C:ι->Ending->Prop}{ex:ι->List Bl}
def m7(h:St V w0 (dQ P x++l) w)(hi:i<x.na){y:ι->Ag}(hex:∀j,qD (ex j))(hc:∀(U:aV)(p:xC),p.a=P.a i->(∀b,U b->b<(w:Nat))->Lw N U f args (dV p (x.ag i)) C (λj=>ex j++dV p (y j)) w):dF N f args w λe O=>∃j,C j e∧St V w0 (ex j++(dQ P (x.jQ i (y j))++l)) O:=by
 have hat:=a3K P x hi l;have I:=h.front _ hat
 refine (St.qw (a:=[.o (EW (P.a i) (P.d (x.nr+i)) (x.ag i))]) (a':=λj=>ex j++[.o (EW (P.a i) (P.d (x.nr+i)) (y j))]) (b:=(dQ P x++l).eraseIdx (5+(x.nr+i))) I (λj=>mj (hex j) (show qD [.o (EW (P.a i) (P.d (x.nr+i)) (y j))] from ⟨EW.framed _ _ _,trivial⟩)) I.no (λU hU kp=>ZX (λp hp=>hc _ p hp (λb hb=>hb.elim (kp b) False.elim)))).mono ?_;rintro e O ⟨j,hC,L⟩;refine⟨j,hC,?_⟩;have e2:=Od P x hi (y j) l;rw[show dQ P (x.jQ i (y j))++l=_ from e2.symm];refine L.perm ?_;rw[bp];exact List.Perm.append_left _ (iZ hat).symm
def D1(h:St V w0 (dQ P x++l) w)(hi:i<x.nr){y:ι->Rp}(hex:∀j,qD (ex j))(hc:∀U:aV,(∀b,U b->b<(w:Nat))->Lw N U f args [.o (vh (P.r i) (P.d i) (x.rp i))] C (λj=>ex j++[.o (vh (P.r i) (P.d i) (y j))]) w):dF N f args w λe O=>∃j,C j e∧St V w0 (ex j++(dQ P (x.rF i (y j))++l)) O:=by
 have hat:=S3 P x hi l;have I:=h.front _ hat
 refine (St.qw (a:=[.o (vh (P.r i) (P.d i) (x.rp i))]) (a':=λj=>ex j++[.o (vh (P.r i) (P.d i) (y j))]) (b:=(dQ P x++l).eraseIdx (5+i)) I (λj=>mj (hex j) (show qD [.o (vh (P.r i) (P.d i) (y j))] from ⟨vh.framed _ _ _,trivial⟩)) I.no (λU hU kp=>hc _ (λb hb=>hb.elim (kp b) False.elim))).mono ?_;rintro e O ⟨j,hC,L⟩;refine⟨j,hC,?_⟩;have e2:=C_ P x hi (y j) l;rw[show dQ P (x.rF i (y j))++l=_ from e2.symm];refine L.perm ?_;rw[bp];exact List.Perm.append_left _ (iZ hat).symm
end
set_option maxRecDepth 100000
set_option maxHeartbeats 1000000
def GQ(w:G)(D:aV)(P:nt)(x:Wl)(hQ:qK P x)(i:Nat)(hi:i<x.na)(X:(x.ag i).Ok)(b:Int)(n:Nat)(s:aR)(hs:s.size<=1000000)(hn:n<=9223372036854775807):Lw N D 159 #[((P.w,0):E),aZ (jz ⟨9,((x.nr+i:Nat):Int),b,(n:Int),s⟩)] (dQ P x) (λ(_:Unit)e=>e=b5 (aZ (li { Ev.zero with why:=((x.ag i).gn (s,n)).2 }))) (λ_=>dQ P (x.jQ i ((x.ag i).gn (s,n)).1)) w:=by
 obtain⟨j,Hj⟩:=az (((x.nr+i:Nat):Int));rw[<-Hj.out];intro V hM hV;have fY:=St.begin_ hM (λb hb=>(hV b hb).1) (ft P x);obtain⟨y,wa,HY,HA,eC⟩:=fY.new' (jz ⟨9,j,b,(n:Int),s⟩) 75;obtain⟨z,wb,HZ,HB,ec⟩:=eC.new' aH 77;have ez:z=y+1:=by rw[HZ.out,HA.out,HY.out];simp
 replace ec:=ec.perm (bg (l₁:=[_,_]) (l₂:=dQ P x));have hF:=j8 ec hQ;have Di:=rD hF hQ hi;rw[<-Hj.out] at Di;have hy:=(ec.perm (bg (l₂:=[_,_]))).facts.2.1.1;have y0:wb.cell? (y,0)=some (J 9):=hy 0;have y3:wb.cell? (y,3)=some (J n):=hy 3;have y4:wb.cell? (y,4)=some (aX s):=hy 4;have dn:decide ((n:Int)<0)=false:=aD ap;have hw:IntKind.u64.wrap (n:Int)=(n:Int):=by rw[wrap_u64];omega
 have hpA:ptr (P.a i)=.pointer (some ⟨P.a i,0,none⟩):=rfl;unfold jz at HA ⊢;dsimp only at HA ⊢;clear hF hy;go_in;go_wp2_with fail;rw[<-HA.out,<-HB.out,<-HY.out,<-ez];refine Di.mono ?_;rintro e w1 ⟨rfl,rfl⟩;rw[hpA];clear Di HA HB HY HZ ez fY eC;go_wp2_with fail;refine (m7 (ι:=Unit) (ex:=λ_=>[]) ec hi (λ_=>trivial) (λU p hp kp=>by rw[<-hp];exact O2 wb U p (x.ag i) X s n hs ap)).mono ?_;rintro e w2 ⟨_,rfl,eh⟩;replace eh:=eh.perm (bg (l₁:=dQ P _) (l₂:=[_,_]));go_wp2_with (refine er eh 0 rfl 77 _ _ rfl 0 rfl [J ((x.ag i).gn (s,n)).2,(),(),(),(),(),ae ah 0,()] rfl (bf rfl) rfl aw (li { Ev.zero with why:=((x.ag i).gn (s,n)).2 }) rfl rfl ?_;intro w3 eU;refine stay ?_);refine dN ?_;go_wp2;refine bodyPost_ret (fF rfl _ z rfl (eU.blk 0 rfl) bZ aw) rfl ?_;obtain⟨r1,r2⟩:=(eU.drop.drop).fin;exact⟨(),rfl,r1,r2⟩
def Kg(w:G)(D:aV)(P:nt)(x:Wl)(hQ:qK P x)(i:Nat)(hi:i<x.na)(X:(x.ag i).Ok)(b n:Int)(s:aR):Lw N D 159 #[((P.w,0):E),aZ (jz ⟨10,((x.nr+i:Nat):Int),b,n,s⟩)] (dQ P x) (λ(_:Unit)e=>e=b5 (aZ (li { Ev.zero with code:=((x.ag i).cut.2.length:Int) }))) (λ_=>dQ P (x.jQ i (x.ag i).cut.1)) w:=by
 obtain⟨j,Hj⟩:=az (((x.nr+i:Nat):Int));rw[<-Hj.out];intro V hM hV;have fY:=St.begin_ hM (λb hb=>(hV b hb).1) (ft P x);obtain⟨y,wa,HY,HA,eC⟩:=fY.new' (jz ⟨10,j,b,n,s⟩) 75;obtain⟨z,wb,HZ,HB,ec⟩:=eC.new' aH 77;have ez:z=y+1:=by rw[HZ.out,HA.out,HY.out];simp
 replace ec:=ec.perm (bg (l₁:=[_,_]) (l₂:=dQ P x));have hF:=j8 ec hQ;have Di:=rD hF hQ hi;rw[<-Hj.out] at Di;have hy:=(ec.perm (bg (l₂:=[_,_]))).facts.2.1.1;have y0:wb.cell? (y,0)=some (J 10):=hy 0;have hpA:ptr (P.a i)=.pointer (some ⟨P.a i,0,none⟩):=rfl;unfold jz at HA ⊢;dsimp only at HA ⊢;clear hF hy;go_in;go_wp2_with fail;rw[<-HA.out,<-HB.out,<-HY.out,<-ez];refine Di.mono ?_;rintro e w1 ⟨rfl,rfl⟩;rw[hpA];clear Di HA HB HY HZ ez fY eC;go_wp2_with fail;refine (m7 (ι:=E) (ex:=λu=>[.o (nX (x.ag i).node u (x.ag i).cut.2)]) (y:=λ_=>(x.ag i).cut.1) ec hi (λ_=>⟨nX.framed _ _ _,trivial⟩) (λU p hp kp=>by rw[<-hp];exact ZQ wb U p (x.ag i) X)).mono ?_;rintro e w2 ⟨u,rfl,eh⟩;obtain⟨Au,cu,rfl,_⟩:=fT.oJ eh 0 rfl;replace eh:=eh.drop;replace eh:=eh.perm (bg (l₁:=dQ P _) (l₂:=[_,_]));go_wp2_with (refine er eh 0 rfl 77 _ _ rfl 0 rfl [(),(),J ((x.ag i).cut.2.length:Int),(),(),(),ae ah 0,()] rfl (bf rfl) rfl aw (li { Ev.zero with code:=((x.ag i).cut.2.length:Int) }) rfl rfl ?_;intro w3 eU;refine stay ?_);refine dN ?_;go_wp2;refine bodyPost_ret (fF rfl _ z rfl (eU.blk 0 rfl) bZ aw) rfl ?_;obtain⟨r1,r2⟩:=(eU.drop.drop).fin;exact⟨(),rfl,r1,r2⟩
def nY(x:I3):List I3->List I3
 | []=>[x]
 | y::l=>if x=y then y::l else if ES x y=true then x::y::l else y::nY x l
def S7(l:List I3):List I3:=l.foldr nY []
def Bv(l:List I3):Prop:=l.Pairwise λa b=>ES a b=true
def Eu(x:I3):ES x x=false:=by rw[zy];omega
def wi{x y z:I3}(h:ES x y=true)(h':ES y z=true):ES x z=true:=by rw[uG] at *;omega
def LY{x y:I3}(h:x≠y)(h':ES x y=false):ES y x=true:=by rw[zy] at h';rw[uG];have:¬ (x.1=y.1∧x.2.1=y.2.1∧x.2.2=y.2.2):=λ⟨a,b,c⟩=>h (Prod.ext a (Prod.ext b c));omega
theorem uT(x z:I3):∀l:List I3,z∈nY x l↔z=x∨z∈l
 | []=>by simp[nY]
 | y::l=>by
   unfold nY;split;·next h=>subst h;simp
   ·split
    ·simp
    ·rw[b_,uT x z l,b_]
     constructor
     ·rintro (h|h|h)
      ·exact .inr (.inl h)
      ·exact .inl h
      ·exact .inr (.inr h)
     ·rintro (h|h|h)
      ·exact .inr (.inl h)
      ·exact .inl h
      ·exact .inr (.inr h)
theorem rG(x:I3):∀{l:List I3},Bv l->Bv (nY x l)
 | [],_=>List.pairwise_singleton _ _
 | y::l,h=>by
   obtain⟨I,Z⟩:=List.pairwise_cons.1 h;unfold nY;split;·exact h
   ·next kr=>
    split
    ·next fM=>exact List.pairwise_cons.2 ⟨λz hz=>by
      rcases List.mem_cons.1 hz with rfl|hz
      ·exact fM
      ·exact wi fM (I z hz),h⟩
    ·next fM=>
     refine List.pairwise_cons.2 ⟨λz hz=>?_,rG x Z⟩;rcases (uT x z l).1 hz with rfl|hz
     ·exact LY kr (by simpa using fM)
     ·exact I z hz
theorem Ew:∀l:List I3,Bv (S7 l)
 | []=>List.Pairwise.nil
 | x::l=>rG x (Ew l)
theorem Ex(z:I3):∀l:List I3,z∈S7 l↔z∈l
 | []=>by simp[S7]
 | x::l=>by
   show z∈nY x (S7 l)↔_;rw[uT,Ex z l,b_]
theorem xZ:∀{a b:List I3},Bv a->Bv b->(∀z,z∈a↔z∈b)->a=b
 | [],[],_,_,_=>rfl
 | [],y::b,_,_,h=>absurd ((h y).2 (by simp)) (by simp)
 | x::a,[],_,_,h=>absurd ((h x).1 (by simp)) (by simp)
 | x::a,y::b,ha,hb,h=>by
   obtain⟨a1,a2⟩:=List.pairwise_cons.1 ha;obtain⟨b1,b2⟩:=List.pairwise_cons.1 hb;have e:x=y:=by
    rcases List.mem_cons.1 ((h x).1 (by simp)) with e|e
    ·exact e
    ·rcases List.mem_cons.1 ((h y).2 (by simp)) with e2|e2
     ·exact e2.symm
     ·have:=wi (a1 y e2) (b1 x e)
      rw[Eu] at this;cases this
   subst e;rw[xZ a2 b2 λz=>?_];constructor
   ·intro hz
    rcases List.mem_cons.1 ((h z).1 (by simp[hz])) with e|e
    ·subst e
     have:=a1 z hz;rw[Eu] at this;cases this
    ·exact e
   ·intro hz
    rcases List.mem_cons.1 ((h z).2 (by simp[hz])) with e|e
    ·subst e
     have:=b1 z hz;rw[Eu] at this;cases this
    ·exact e
theorem S8(z:I3):∀(l:List I3)(p:I3),z∈l->z=p∨z∈dd p l
 | [],_,h=>by simp at h
 | x::l,p,h=>by
   unfold dd;rcases List.mem_cons.1 h with rfl|h
   ·split
    ·next e=>exact .inl e
    ·exact .inr (by simp)
   ·rcases S8 z l x h with rfl|h
    ·split
     ·next e=>exact .inl e
     ·exact .inr (by simp)
    ·split
     ·exact .inr h
     ·exact .inr (by simp[h])
theorem Kh:∀(l:List I3)(p z:I3),z∈dd p l->z∈l
 | [],_,_,h=>h
 | x::l,p,z,h=>by
   unfold dd at h;split at h;·exact bV _ (Kh l x z h)
   ·rcases List.mem_cons.1 h with rfl|h
    ·simp
    ·exact bV _ (Kh l x z h)
theorem VS(l:List I3)(z:I3):z∈Z7 l↔z∈l:=by
 cases l with
 | nil=>rfl
 | cons x l=>
   show z∈x::dd x l↔_;constructor
   ·intro h
    rcases List.mem_cons.1 h with rfl|h
    ·simp
    ·exact bV _ (Kh l x z h)
   ·intro h
    rcases List.mem_cons.1 h with rfl|h
    ·simp
    ·rcases S8 z l x h with rfl|h
     ·simp
     ·simp[h]
theorem S9:∀(l:List I3)(p:I3),(p::l).Pairwise (λa b=>ES b a=false)->Bv (p::dd p l)
 | [],p,_=>List.pairwise_singleton _ _
 | x::l,p,h=>by
   obtain⟨I,Z⟩:=List.pairwise_cons.1 h;have ih:=S9 l x Z;obtain⟨i1,i2⟩:=List.pairwise_cons.1 ih;unfold dd;split;·next e=>subst e;exact ih
   ·next e=>
    have X:ES p x=true:=LY e (I x (by simp));exact List.pairwise_cons.2 ⟨λz hz=>by
     rcases List.mem_cons.1 hz with rfl|hz
     ·exact X
     ·exact wi X (i1 z hz),ih⟩
theorem VT{l:List I3}(h:l.Pairwise λa b=>ES b a=false):Bv (Z7 l):=by
 cases l with
 | nil=>exact List.Pairwise.nil
 | cons x l=>exact S9 l x h
def a00{l m:List I3}(hp:l.Perm m)(h:l.Pairwise λa b=>ES b a=false):Z7 l=S7 m:=xZ (VT h) (Ew m) λz=>by rw[VS,Ex,hp.mem_iff]
def LZ{l:List I3}(h:Bv l)(x:I3):S7 (l++[x])=nY x l:=xZ (Ew _) (rG x h) λz=>by rw[Ex,uT,List.mem_append,List.mem_singleton,Or.comm]
theorem z_(x:I3):∀l:List I3,(nY x l).length<=l.length+1
 | []=>bh _
 | y::l=>by
   have:=z_ x l;unfold nY;split;·simp
   ·split
    ·simp
    ·simp only[bC];omega
structure ja where
 (ak rf:List I3) (rd:aQ)
def ja.new:ja:=⟨[],[],[]⟩
structure ja.Ok(s:ja):Prop where
 ak:Bv s.ak
 rf:Bv s.rf
 rd:∀n∈s.rd,n<18446744073709551616
def ja.add(s:ja)(k:Int)(e:Ev):ja:=if k≠2∨e.why≠0 then s else if e.code=1∨e.code=2 then { s with ak:=nY e.id s.ak } else if e.code=3 then { s with rf:=nY e.id s.rf } else if e.code=8 then { s with rd:=s.rd++[e.n] } else s
theorem ja.Ok.new:ja.new.Ok:=⟨List.Pairwise.nil,List.Pairwise.nil,λ_ h=>by simp[ja.new] at h⟩
theorem ja.Ok.add{s:ja}(h:s.Ok)(k:Int){e:Ev}(he:e.n<18446744073709551616):(s.add k e).Ok:=by
 unfold ja.add;repeat' split
 ·exact h
 ·exact⟨rG _ h.ak,h.rf,h.rd⟩
 ·exact⟨h.ak,rG _ h.rf,h.rd⟩
 ·exact⟨h.ak,h.rf,λn hn=>by
   rcases List.mem_append.1 hn with hn|hn
   ·exact h.rd n hn
   ·rw[List.mem_singleton.1 hn];exact he⟩
 ·exact h
def ja.len(s:ja):Nat:=s.ak.length+s.rf.length+s.rd.length
def ja.oh(s:ja)(k:Int)(e:Ev):(s.add k e).len<=s.len+1:=by
 have I:=z_ e.id s.ak;have Z:=z_ e.id s.rf;unfold ja.add ja.len;repeat' split
 all_goals try simp only[bd,bw]
 all_goals omega
def Sb(w:G)(ρ:Operand->E)(o:dJ)(x:Operand)(ho:o.op=.buildSlice 30 1 #[(0,x)])(s:Sd)(X:ρ x=aZ s.cells.toArray):(execOp ρ o).run N w=.ok (.value (Y (some ⟨(w:Nat),0,none⟩) 1 1)) (w.alloc (.cells s.cells.toArray 218)):=by obtain⟨dst,op,ty,pos,after,guard⟩:=o;simp only at ho;subst ho;obtain⟨to,⟨mk,⟨ek,ag,sh,sq,ep,ds,se,fr,tg⟩,tag,code,n,term,had,log,commit,len⟩,Am,cm,A2,qq,c2⟩:=s;unfold Sd.cells Ms.cells at *;dsimp only at *;go_simp
set_option maxRecDepth 100000
set_option maxHeartbeats 1000000
def Oe(w:G)(D:aV)(P:nt)(x:Wl)(hQ:qK P x)(i:Nat)(hi:i<x.na)(b n:Int)(s:aR)(hs:s.size<=1000)(hp:aev.gl s=0)(ht:(x.ag i).tag<=4611686018427387904)(qI:(x.ag i).node<8):Lw N D 159 #[((P.w,0):E),aZ (jz ⟨13,((x.nr+i:Nat):Int),b,n,s⟩)] (dQ P x) (λ(_:Unit)e=>e=b5 (aZ (li Ev.zero))) (λ_=>dQ P ((x.jQ i ((x.ag i).look s).1).send (x.nr+i) [((x.ag i).last,gH (k_ s (x.ag i).node ((x.ag i).tag+1)))])) w:=by
 obtain⟨j,Hj⟩:=az (((x.nr+i:Nat):Int));rw[<-Hj.out];intro V hM hV;have fY:=St.begin_ hM (λb hb=>(hV b hb).1) (ft P x);obtain⟨y,wa,HY,HA,eC⟩:=fY.new' (jz ⟨13,j,b,n,s⟩) 75;obtain⟨z,wb,HZ,HB,ec⟩:=eC.new' aH 77;have ez:z=y+1:=by rw[HZ.out,HA.out,HY.out];simp
 replace ec:=ec.perm (bg (l₁:=[_,_]) (l₂:=dQ P x));have hF:=j8 ec hQ;have Di:=rD hF hQ hi;rw[<-Hj.out] at Di;have hy:=(ec.perm (bg (l₂:=[_,_]))).facts.2.1.1;have y0:wb.cell? (y,0)=some (J 13):=hy 0;have y1:wb.cell? (y,1)=some (J j):=hy 1;have y4:wb.cell? (y,4)=some (aX s):=hy 4;have hpA:ptr (P.a i)=.pointer (some ⟨P.a i,0,none⟩):=rfl;unfold jz at HA ⊢;dsimp only at HA ⊢;clear hF hy;go_in;go_wp2_with fail;rw[<-HA.out,<-HB.out,<-HY.out,<-ez];refine Di.mono ?_;rintro e w1 ⟨rfl,rfl⟩;rw[hpA];clear Di HA HB HY HZ ez fY eC;go_wp2_with fail;have EO:(x.ag i).look s=((x.ag i).next (0,0,0),oR (x.ag i).last (k_ s (x.ag i).node ((x.ag i).tag+1)) none 0,0):=by unfold Ag.look;rw[aB (by rw[hp];decide)]
 obtain⟨R,HR⟩:=az (((x.ag i).look s).1);obtain⟨sd,Hsd⟩:=az (oR (x.ag i).last (k_ s (x.ag i).node ((x.ag i).tag+1)) none 0);have hC:=m7 (ι:=Unit) (f:=222) (args:=#[.pointer (some ⟨P.a i,0,none⟩),aX s]) (C:=λ_ e=>e=b5 (a_ #[((x.ag i).look s).2.1.val,J ((x.ag i).look s).2.2])) (y:=λ_=>((x.ag i).look s).1) (ex:=λ_=>[]) ec hi (λ_=>trivial) (λU p hp kp=>by rw[<-hp];exact VH wb U p (x.ag i) s ap ht);rw[<-HR.out] at hC;rw[show ((x.ag i).look s).2.1=sd by rw[EO,Hsd.out],show ((x.ag i).look s).2.2=0 by rw[EO]] at hC;refine hC.mono ?_;rintro e w2 ⟨_,rfl,eh⟩;replace eh:St V w (dQ P (x.jQ i R)++[_,_]) w2:=eh;clear hC EO ec;have y1:w2.cell? (y,1)=some (J j):=(eh.perm (bg (l₂:=[_,_]))).facts.2.1.1 1;unfold Sd.val;go_wp2_with (refine kJ rfl (zB _ _ _ rfl) ?_;intro g w4 XO Dg hz4 WV;refine stay ?_);refine dN ?_;have eU:=eh.made Dg XO (Nat.le_of_eq hz4);go_wp2_with (refine er eU 0 rfl 218 _ _ rfl 0 rfl sd.cells rfl (bf rfl) rfl aw sd.cells.toArray rfl rfl ?_;intro w5 eI;refine stay ?_);refine dN ?_;replace y1:w5.cell? (y,1)=some (J j):=(eI.perm (List.Perm.cons _ (bg (l₂:=[_,_])))).facts.2.2.1.1 1;clear eh eU XO Dg hz4 WV;go_wp2_with (first|(refine d_ rfl 218 _ rfl _ rfl (eI.blk 0 rfl) Tryz.underlying218 aw ?_)|(refine pg rfl (Sb _ _ _ _ rfl sd rfl) ?_;refine stay ?_));refine dN ?_;have a3M:∀O U,Sd.In O U sd:=λO U=>by rw[Hsd.out];exact⟨⟨⟨by simp[oR,k_,fw],λh=>by simp[oR,k_] at h⟩,bh _,bo _,bo _⟩,kO.nil,rfl,bh _,bo _⟩
 have eS:=nU eI sd a3M;replace eS:=(eS.dT 1 rfl);have hx6:(x.jQ i R).nn=x.nn:=rfl;obtain⟨w6,H6⟩:=az (w5.alloc (.cells sd.cells.toArray 218));obtain⟨g6,G6⟩:=az ((w5:Nat));rw[<-H6.out,<-G6.out] at eS;replace eS:St V w ((dQ P (x.jQ i R)++[.o (dY (Y (some (g6,0)) 1 1) [sd])])++[.c z 77 aH,.c y 75 (jz ⟨13,j,b,n,s⟩)]) w6:=eS.perm (by rw[bp];exact List.perm_middle.symm)
 have vd:∀q∈[sd],q.m.Gd:=λq hq=>by rw[List.mem_singleton.1 hq,Hsd.out];exact .ask _ ⟨⟨⟨by show (0:Int)<=((x.ag i).node:Int);omega,by show ((x.ag i).node:Int)<8;omega⟩,by show (0:Int)<=(((x.ag i).tag+1:Nat):Int);omega,by show (((x.ag i).tag+1:Nat):Int)<=9223372036854775807;omega⟩,.inr ⟨rfl,rfl,rfl,rfl,rfl,rfl,hp,hs⟩⟩
 have o3:=rE w6 (λ_=>False) P (x.jQ i R) (hQ.jQ i R) (x.nr+i) (by rw[hx6];show x.nr+i<x.nr+x.na;omega) (Y (some (g6,0)) 1 1) [sd] vd (by simp);rw[<-Hj.out] at o3;rw[<-H6.out,<-G6.out];clear eI H6 G6 a3M vd y1;go_wp2_with fail;refine (St.call (a:=dQ P (x.jQ i R)++[.o (dY (Y (some (g6,0)) 1 1) [sd])]) (a':=λ(_:Unit)=>dQ P ((x.jQ i R).send (x.nr+i) (eY [sd]))) eS (λ_=>ft _ _) eS.no o3).mono ?_;rintro e w7 ⟨_,rfl,eh⟩;replace eh:=eh.perm (bg (l₁:=dQ P _) (l₂:=[_,_]));go_wp2_with (refine er eh 0 rfl 77 _ _ rfl 0 rfl [(),(),(),(),(),(),ae ah 0,()] rfl (bf rfl) rfl aw (li Ev.zero) rfl rfl ?_;intro w3 eU;refine stay ?_);refine dN ?_;go_wp2;refine bodyPost_ret (fF rfl _ z rfl (eU.blk 0 rfl) bZ aw) rfl ?_;rw[Hsd.out,HR.out] at eU;obtain⟨r1,r2⟩:=(eU.drop.drop).fin;exact⟨(),rfl,r1,r2⟩
set_option maxRecDepth 100000
set_option maxHeartbeats 1000000
def _root_.Go.Proofs.YtpeepcmdehhbgaaGreatDoor.St.inn{a:Bl}{aev M:List Bl}(h:St V w ([a]++(aev++M)) O):St V w ((aev++[a])++M) O:=h.perm (by rw[<-bp];exact List.Perm.append_right _ bg)
def _root_.Go.Proofs.YtpeepcmdehhbgaaGreatDoor.St.VU{a:Bl}{aev M:List Bl}(h:St V w ((aev++[a])++M) O):St V w (aev++M) O:=St.drop (h.perm (by rw[bp];exact List.perm_middle))
def VV(w:G)(D:aV)(P:nt)(x:Wl)(hQ:qK P x)(i:Nat)(hi:i<x.na)(X:(x.ag i).Ok)(M:Nat)(ht:(x.ag i).Tm M)(hM:M<=576460752303423488)(b:Int)(n:Nat)(s:aR)(hn:1<=n∧n<=1024)(vd:∀q∈((x.ag i).gv n []).2,q.2.Gd)(sI:((x.ag i).gv n []).2.length<=1048576):Lw N D 151 #[((P.w,0):E),aZ (jz ⟨1,((x.nr+i:Nat):Int),b,(n:Int),s⟩)] (dQ P x) (λ(_:Unit)e=>e=b5 (aZ (li { Ev.zero with node:=((x.nr+i:Nat):Int) }))) (λ_=>dQ P ((x.jQ i ((x.ag i).gv n []).1).send (x.nr+i) ((x.ag i).gv n []).2)) w:=by
 obtain⟨R,HR⟩:=az ((x.ag i).gv n []);rw[<-HR.out] at vd sI ⊢;obtain⟨j,Hj⟩:=az (x.nr+i);have xf:j<x.nn:=by rw[Hj.out];show x.nr+i<x.nr+x.na;omega
 rw[<-Hj.out];intro V sB hV;have fY:=St.begin_ sB (λb hb=>(hV b hb).1) (ft P x);obtain⟨y,wa,HY,HA,eC⟩:=fY.new' (jz ⟨1,(j:Int),b,(n:Int),s⟩) 75;obtain⟨z,wb,HZ,HB,ec⟩:=eC.new' aH 77;have ez:z=y+1:=by rw[HZ.out,HA.out,HY.out];simp
 replace ec:=ec.perm (bg (l₁:=[_,_]) (l₂:=dQ P x));have hF:=j8 ec hQ;have Tv:=zZ hF hQ xf;have xG:=GM hF (i:=(j:Int)) (by right;rw[Hj.out];omega);have hy:=(ec.perm (bg (l₂:=[_,_]))).facts.2.1.1;have y1:wb.cell? (y,1)=some (J j):=hy 1;have y3:wb.cell? (y,3)=some (J n):=hy 3;have dn1:decide ((n:Int)<1)=false:=aD ap;have dn2:decide ((1024:Int)<(n:Int))=false:=aD ap;unfold jz at HA ⊢;unfold ptr at Tv;dsimp only at HA ⊢;clear hF hy;go_in;go_wp2_with fail;rw[<-HA.out,<-HB.out,<-HY.out,<-ez];refine Tv.mono ?_;rintro e w1 ⟨rfl,rfl⟩;clear Tv HA HB HY HZ ez fY eC;go_wp2_with fail;refine xG.mono ?_;rintro e w1 ⟨rfl,rfl⟩;go_wp2_with fail;clear y1 y3 xG;have eZ:=ec.grow (Grow.refl _).drew;have gU:∀x' O,St V w (dQ P x'++[.c z 77 aH,.c y 75 (jz ⟨1,(j:Int),b,(n:Int),s⟩)]) O->O.cell? (y,1)=some (J j)∧O.cell? (y,3)=some (J n):=λx' O h=>by have Z:=(h.perm (bg (l₂:=[_,_]))).facts.2.1.1;exact⟨Z 1,Z 3⟩
 have eN:=gU _ _ eZ;refine dO rfl ?_;refine fV (λO=>O.cell? (y,1)=some (J j)∧O.cell? (y,3)=some (J n)) [] 11 rfl [0,1,2,3,4,5,7,8] ?_;iterate 8 (refine ff rfl eN (λw1 ⟨I,Z⟩=>aM) ?_)
 refine fG 6 [] rfl ?_;have Di:=rD (j8 eZ hQ) hQ hi;rw[<-Hj.out] at Di;unfold ptr at Di;go_wp2_with fail;refine Di.mono ?_;rintro e w3 ⟨rfl,rfl⟩;go_wp2_with fail;refine⟨λ_=>eN,?_⟩;refine fG 9 [] rfl ?_;have hC:=m7 (ι:=E×List Sd) (f:=208) (args:=#[.pointer (some ⟨P.a i,0,none⟩),J n]) (C:=λj e=>e=b5 j.1∧eY j.2=R.2) (y:=λ_=>R.1) (ex:=λj=>[.o (dY j.1 j.2)]) eZ hi (λ_=>⟨dY.framed _ _,trivial⟩) (λU p hp kp=>by rw[<-hp,HR.out];exact VK _ U p (x.ag i) X M ht hM n hn.2);go_wp2_with fail;refine hC.mono ?_;rintro e w4 ⟨⟨u,q⟩,⟨rfl,hq⟩,eh⟩;dsimp only at hq eh;replace eh:=St.inn eh;have sr:=gU _ _ (St.VU eh);go_wp2_with fail;refine⟨λ_=>sr,?_⟩;refine fG 10 [] rfl ?_;have o3:=rE w4 (λ_=>False) P (x.jQ i R.1) (hQ.jQ i R.1) j xf u q (λs hs=>vd (s.to,s.m) (by rw[<-hq];exact cW hs)) (by rw[<-hq] at sI;unfold eY at sI;rwa [bj] at sI);rw[hq] at o3;go_wp2_with fail;refine (St.call (a:=dQ P (x.jQ i R.1)++[.o (dY u q)]) (a':=λ(_:Unit)=>dQ P ((x.jQ i R.1).send j R.2)) eh (λ_=>ft _ _) eh.no o3).mono ?_;rintro e w7 ⟨_,rfl,eI⟩;have VW:=gU _ _ eI;replace eI:=eI.perm (bg (l₁:=dQ P _) (l₂:=[_,_]));go_wp2_with fail;refine⟨λ_=>VW,?_⟩;refine gQ ?_;clear eh sr ec eZ eN;obtain⟨VW,_⟩:=VW;go_wp2_with (refine er eI 0 rfl 77 _ _ rfl 0 rfl [(),J j,(),(),(),(),ae ah 0,()] rfl (bf rfl) rfl aw (li { Ev.zero with node:=(j:Int) }) rfl rfl ?_;intro w8 eS;refine stay ?_);refine dN ?_;go_wp2;refine bodyPost_ret (fF rfl _ z rfl (eS.blk 0 rfl) bZ aw) rfl ?_;obtain⟨r1,r2⟩:=(eS.drop.drop).fin;exact⟨(),rfl,r1,r2⟩
set_option maxRecDepth 100000
set_option maxHeartbeats 1000000
def VX(nn j:Nat)(l:Sends):Nat->List Lt3->List Lt3
 | 0,b=>b
 | r+1,b=>iL nn j (VX nn j l r b) l
def Wl.mZ(x:Wl)(j:Nat)(l:Sends)(r:Nat):Wl:={ x with net:=VX x.nn j l r x.net }
def Wl.Sc(x:Wl)(i:Nat):x.rF i (x.rp i)=x:=by
 unfold Wl.rF;have:at_ x.rp i (x.rp i)=x.rp:=by
  funext k;unfold at_;split;·next h=>rw[h]
  ·rfl
 rw[this]
def Rp.ticks(y:Rp):Sends:=if y.leads=true then y.accepts else []
def VY(w:G)(D:aV)(P:nt)(x:Wl)(hQ:qK P x)(i:Nat)(hi:i<x.nr)(X:(x.rp i).Ok)(b:Int)(n:Nat)(s:aR)(hn:1<=n∧n<=1024)(vd:∀q∈(x.rp i).ticks,q.2.Gd)(sI:(x.rp i).ticks.length<=1048576):Lw N D 151 #[((P.w,0):E),aZ (jz ⟨1,(i:Int),b,(n:Int),s⟩)] (dQ P x) (λ(_:Unit)e=>e=b5 (aZ (li { Ev.zero with node:=(i:Int) }))) (λ_=>dQ P (x.mZ i (x.rp i).ticks n)) w:=by
 obtain⟨R,HR⟩:=az ((x.rp i).ticks);rw[<-HR.out] at vd sI ⊢;have xf:i<x.nn:=by show i<x.nr+x.na;omega
 intro V sB hV;have fY:=St.begin_ sB (λb hb=>(hV b hb).1) (ft P x);obtain⟨y,wa,HY,HA,eC⟩:=fY.new' (jz ⟨1,(i:Int),b,(n:Int),s⟩) 75;obtain⟨z,wb,HZ,HB,ec⟩:=eC.new' aH 77;have ez:z=y+1:=by rw[HZ.out,HA.out,HY.out];simp
 replace ec:=ec.perm (bg (l₁:=[_,_]) (l₂:=dQ P x));have hF:=j8 ec hQ;have Tv:=zZ hF hQ xf;have xG:=sb hF hQ hi;have hy:=(ec.perm (bg (l₂:=[_,_]))).facts.2.1.1;have y1:wb.cell? (y,1)=some (J i):=hy 1;have y3:wb.cell? (y,3)=some (J n):=hy 3;have dn1:decide ((n:Int)<1)=false:=aD ap;have dn2:decide ((1024:Int)<(n:Int))=false:=aD ap;unfold jz at HA ⊢;unfold ptr at Tv xG;dsimp only at HA ⊢;clear hF hy;go_in;go_wp2_with fail;rw[<-HA.out,<-HB.out,<-HY.out,<-ez];refine Tv.mono ?_;rintro e w1 ⟨rfl,rfl⟩;clear Tv HA HB HY HZ ez fY eC;go_wp2_with fail;refine xG.mono ?_;rintro e w1 ⟨rfl,rfl⟩;go_wp2_with fail;clear y1 y3 xG;have gU:∀x' O,St V w (dQ P x'++[.c z 77 aH,.c y 75 (jz ⟨1,(i:Int),b,(n:Int),s⟩)]) O->O.cell? (y,1)=some (J i)∧O.cell? (y,3)=some (J n):=λx' O h=>by have Z:=(h.perm (bg (l₂:=[_,_]))).facts.2.1.1;exact⟨Z 1,Z 3⟩
 go_loopw [31] (λu wr=>∃r:Nat,u=J r∧r<=n∧St V w (dQ P (x.mZ i R r)++[.c z 77 aH,.c y 75 (jz ⟨1,(i:Int),b,(n:Int),s⟩)]) wr) (λu _=>n-(intOf u).toNat);case atStart=>exact⟨0,rfl,bo _,ec⟩
 case round=>
  obtain⟨r,rfl,hrn,L⟩:=hrel;by_cases hr:r<n
  ·have dr:decide (r<n)=true:=aC hr
   have eZ:=L.grow (Grow.refl _).drew;have eN:=gU _ _ eZ;go_wp2_with fail;refine dO rfl ?_;refine fV (λO=>O.cell? (y,1)=some (J i)∧O.cell? (y,3)=some (J n)) [] 6 rfl [0,1,2,3] ?_;iterate 4 (refine ff rfl eN (λw1 ⟨I,Z⟩=>aM) ?_)
   refine fG 4 [] rfl ?_;have hC:=D1 (ι:=E×List Sd) (f:=206) (args:=#[.pointer (some ⟨P.r i,0,none⟩)]) (C:=λj e=>e=b5 j.1∧eY j.2=R) (y:=λ_=>x.rp i) (ex:=λj=>[.o (dY j.1 j.2)]) eZ hi (λ_=>⟨dY.framed _ _,trivial⟩) (λU _=>S2 λp g hp=>by rw[<-hp,HR.out];exact λV hM hV=>RG wr.drew p g (x.rp i) X V hM (λb hb=>⟨(hV b hb).1,id⟩));go_wp2_with fail;refine hC.mono ?_;rintro e w4 ⟨⟨u,q⟩,⟨rfl,hq⟩,eh⟩;dsimp only at hq eh;replace eh:St V w ([.o (dY u q)]++(dQ P ((x.mZ i R r).rF i ((x.mZ i R r).rp i))++_)) w4:=eh;rw[Wl.Sc] at eh;replace eh:=St.inn eh;have sr:=gU _ _ (St.VU eh);go_wp2_with fail;refine⟨λ_=>sr,?_⟩;refine fG 5 [] rfl ?_;have o3:=rE w4 (λ_=>False) P (x.mZ i R r) ((hQ.net _)) i xf u q (λs hs=>vd (s.to,s.m) (by rw[<-hq];exact cW hs)) (by rw[<-hq] at sI;unfold eY at sI;rwa [bj] at sI);rw[hq] at o3;go_wp2_with fail;refine (St.call (a:=dQ P (x.mZ i R r)++[.o (dY u q)]) (a':=λ(_:Unit)=>dQ P ((x.mZ i R r).send i R)) eh (λ_=>ft _ _) eh.no o3).mono ?_;rintro e w7 ⟨_,rfl,eI⟩;have eI:St V w (dQ P (x.mZ i R (r+1))++_) w7:=eI;have VW:=gU _ _ eI;go_wp2_with fail;refine⟨λ_=>VW,?_⟩;refine gQ ?_;clear eh sr L eZ eN;have XU:IntKind.i64.wrap ((r:Int)+1)=((r+1:Nat):Int):=by rw[IntKind.wrap_i64];omega
   go_wp2_with fail;refine⟨⟨r+1,rfl,by omega,eI⟩,?_⟩;show n-((r:Int)+1).toNat<n-(r:Int).toNat
   omega
  ·obtain rfl:r=n:=by omega
   obtain⟨lx,_⟩:=gU _ _ L;replace L:=L.perm (bg (l₁:=dQ P _) (l₂:=[_,_]));go_wp2_with (refine er L 0 rfl 77 _ _ rfl 0 rfl [(),J i,(),(),(),(),ae ah 0,()] rfl (bf rfl) rfl aw (li { Ev.zero with node:=(i:Int) }) rfl rfl ?_;intro w8 eS;refine stay ?_);refine dN ?_;go_wp2;refine bodyPost_ret (fF rfl _ z rfl (eS.blk 0 rfl) bZ aw) rfl ?_;obtain⟨r1,r2⟩:=(eS.drop.drop).fin;exact⟨(),rfl,r1,r2⟩
set_option maxRecDepth 100000
set_option maxHeartbeats 1000000
def wj(P:nt)(x:Wl)(l:List Bl):(dQ P x++l)[4]?=some (.o (Ne.fm P.g (x.nn:Int) (x.net.map kE) x.cut)):=rfl
def Ki(w:G)(D:aV)(P:nt)(x:Wl)(i k:Int)(K:k≠0)(hT:∀w,j9 N 209 #[((P.g,0):E),J i] (λe=>e=b5 (a_ #[aZ aL,J k])) (Ne.fm P.g (x.nn:Int) (x.net.map kE) x.cut) (Ne.fm P.g (x.nn:Int) (x.net.map kE) x.cut) w):Lw N D 152 #[((P.w,0):E),J i] (dQ P x) (λ(_:Unit)e=>e=b5 (aZ (li { Ev.zero with why:=k }))) (λ_=>dQ P x) w:=by intro V sB hV;have fY:=St.begin_ sB (λb hb=>(hV b hb).1) (ft P x);obtain⟨z,wb,HZ,HB,ec⟩:=fY.new' aH 77;replace ec:=ec.perm (bg (l₁:=[_]) (l₂:=dQ P x));have De:wb.cell? (P.w,3)=some (ptr P.g):=ec.facts.1.1 3;have hC:=ec.at_ 4 (wj P x _) (λ(_:Unit)=>Ne.fm.framed _ _ _ _) ec.no (Lw.turns (hT wb));have dk:(k != 0)=true:=bne_iff_ne.mpr K;unfold ptr at De;rw[HB.out] at De;go_in;go_wp2_with fail;rw[<-HB.out,<-HZ.out];refine hC.mono ?_;rintro e w1 ⟨_,rfl,eh⟩;have eh:St V w (dQ P x++[_]) w1:=eh;clear hC ec De hT;obtain⟨y,wc,HY,HC,eU⟩:=eh.new' aL 172;rw[HC.out,HY.out] at eU;replace eU:=eU.drop.perm (bg (l₁:=dQ P x) (l₂:=[_]));go_wp2_with (refine er eU 0 rfl 77 _ _ rfl 0 rfl [J k,(),(),(),(),(),ae ah 0,()] rfl (bf rfl) rfl aw (li { Ev.zero with why:=k }) rfl rfl ?_;intro w8 eS;refine stay ?_);refine dN ?_;go_wp2;refine bodyPost_ret (fF rfl _ z rfl (eS.blk 0 rfl) bZ aw) rfl ?_;obtain⟨r1,r2⟩:=(eS.drop).fin;exact⟨(),rfl,r1,r2⟩
def kF(P:nt)(x:Wl)(i:Nat)(m:Ms)(j:Option dG×Nat×Nat):List Bl:=(dQ P x).set 4 (.o (Ne.Taken P.g (x.nn:Int) (Ne.minus (x.net.map kE) i) x.cut (mB m) j))
def Wl.del(x:Wl)(i:Nat):Wl:={ x with net:=x.net.eraseIdx i }
def GR(l:List Lt3)(i:Nat):Ne.minus (l.map kE) i=(l.eraseIdx i).map kE:=by unfold Ne.minus;rw[List.eraseIdx_eq_take_drop_succ,bM,List.map_take,List.map_drop]
section
variable{P:nt}
def L_(h:St V w0 (dQ P x++l) w)(he:x.net[i]?=some (f,t,m))(hc:x.cut (f*8+t)=false):dF N 209 #[((P.g,0):E),J i] w λe O=>∃j:Option dG×Nat×Nat,e=b5 (a_ #[aZ #[J f,J t,Y j.1 j.2.1 j.2.2],()])∧St V w0 (kF P x i m j++l) O:=by
 obtain⟨hi,he⟩:=List.getElem?_eq_some_iff.1 he;have va:i<(x.net.map kE).length:=by rw[bj];exact hi
 have he':(x.net.map kE)[i]=((f:Int),(t:Int),mB m):=by rw[dt,he];rfl
 have hp:x.cut ((x.net.map kE)[i].1.toNat*8+(x.net.map kE)[i].2.1.toNat)=false:=by rw[he'];exact hc
 have hC:=h.at_ 4 (wj P x l) (S':=λj=>Ne.Taken P.g (x.nn:Int) (Ne.minus (x.net.map kE) i) x.cut (mB m) j) (C:=λ(j:Option dG×Nat×Nat)e=>e=b5 (a_ #[aZ #[J f,J t,Y j.1 j.2.1 j.2.2],()])) (λj=>Ne.Taken.framed _ _ _ _ _ _) h.no (Lw.one λV hN hV=>by have:=Ne.FD w P.g (x.nn:Int) (x.net.map kE) x.cut i va hp V hN (λb hb=>(hV b hb).1);rw[he'] at this;exact this)
 exact hC
def D3{j:Option dG×Nat×Nat}(h:St V w0 (kF P x i m j++l) w):St V w0 (dQ P (x.del i)++l) w:=by have I:=h.front 4 rfl;obtain⟨_,Z⟩:=St.opn (κ:=Unit) (o:=λ_=>[.o (Ne.fm P.g (x.nn:Int) (Ne.minus (x.net.map kE) i) x.cut)]) I λU hT=>⟨(),⟨U,λ_=>False,hT.1,trivial,λ_ hb=>hb,λ_ hb=>hb.elim,λ_ _ hb=>hb⟩,⟨Ne.fm.framed _ _ _ _,trivial⟩⟩;have T:=Z.perm (iZ (l:=dQ P x++l) (i:=4) (b' := .o (Ne.fm P.g (x.nn:Int) (Ne.minus (x.net.map kE) i) x.cut)) rfl).symm;rw[GR] at T;exact T
end
set_option maxRecDepth 100000
set_option maxHeartbeats 1000000
def Aa{ρ:Operand->E}{o:dJ}{x:Operand}{ty:dH}{t:dH}{cs:aP}{fs:Array Field}(X:ρ x=(g:E))(ho:o.op=.load ty x)(hB:eL w g t cs)(hu:Tryz.prog.underlying ty=some (.struct fs))(hi:(Tryz.prog.info? ty).map (·.size)=some cs.size):(execOp ρ o).run N w=.ok (.value (aZ cs)) w:=by obtain⟨dst,op,ty',pos,after,guard⟩:=o;simp only at ho;subst ho;have h:=run_loadAt_mid (P:=N) w g 0 ty cs.toList _ (λj u hu=>by rw[cL,hB.cell,<-Array.getElem?_toList];exact hu) hu rfl (by simpa using hi);simp[execOp,X,h,Result.andThen]
def dU.mem{l:List ei}{S:ei}(hM:dU l w V)(L:S∈l):∃U:aV,S w U∧∀b,U b->V b:=by obtain⟨i,hi,he⟩:=List.getElem_of_mem L;obtain⟨U,hU,hs⟩:=(dU.pick l i S (by rw[List.getElem?_eq_getElem hi,he]) hM).fst;exact⟨U,hU,hs⟩
def a01(P:nt)(x:Wl):(dQ P x).length=5+x.nn:=by show ((pH P x++sA P x).length+1+1+1+1+1)=_;simp[pH,sA,Wl.nn];omega
def VZ{P:nt}{f:Int}{A:aU}{A2:aU}{c2:Nat}{q:List El}(h:St V w0 (dQ P x++l) w)(ht:t<x.nr)(X:(x.rp t).Ok)(hm:m.Gd)(hA:m.k≠1->A=none∧c=0)(sn:m.k≠4->m.k≠5->A2=none∧c2=0)(hl:.o (LR ⟨0,m,A,c,A2,q,c2⟩)∈l):dF N 19 #[.pointer (some ⟨P.r t,0,none⟩),J f,aZ (nF m A c A2 c2)] w λe O=>∃j:E×List Sd,(e=b5 j.1∧eY j.2=((x.rp t).recv f m).2)∧St V w0 ([.o (dY j.1 j.2)]++(dQ P (x.rF t ((x.rp t).recv f m).1)++l)) O:=by
 have hat:=S3 P x ht l;have I:=h.front _ hat
 refine (St.qw (ι:=E×List Sd) (a:=[.o (vh (P.r t) (P.d t) (x.rp t))]) (C:=λj e=>e=b5 j.1∧eY j.2=((x.rp t).recv f m).2) (a':=λj=>[.o (dY j.1 j.2)]++[.o (vh (P.r t) (P.d t) ((x.rp t).recv f m).1)]) (b:=(dQ P x++l).eraseIdx (5+t)) I (λj=>(show qD [.o (dY j.1 j.2),.o (vh (P.r t) (P.d t) ((x.rp t).recv f m).1)] from ⟨dY.framed _ _,vh.framed _ _ _,trivial⟩)) I.no (λU hU kp=>?_)).mono ?_
 ·obtain⟨U',hI,hs⟩:=dU.mem (S:=LR ⟨0,m,A,c,A2,q,c2⟩) hU (List.mem_map.2 ⟨_,(by
   rw[List.eraseIdx_append_of_lt_length (by rw[a01];show 5+t<5+(x.nr+x.na);omega)];exact List.mem_append_right _ hl),rfl⟩)
  exact ZY w _ (P.r t) (P.d t) (x.rp t) X f m A c A2 c2 q hm hA sn (qn _ _ _ _ hI (λb hb => .inl (hs b hb))) (λb hb=>hb.elim (kp b) False.elim)
 rintro e O ⟨j,hC,L⟩;refine⟨j,hC,?_⟩;have e2:=C_ P x ht ((x.rp t).recv f m).1 l;rw[show dQ P (x.rF t ((x.rp t).recv f m).1)++l=_ from e2.symm];exact L.perm ((iZ hat).symm.cons _)
def Kj(w:G)(D:aV)(P:nt)(x:Wl)(hQ:qK P x)(i f t:Nat)(m:Ms)(he:x.net[i]?=some (f,t,m))(hc:x.cut (f*8+t)=false)(hm:m.Gd)(XW:lJ m=true)(ht:t<x.nr)(X:(x.rp t).Ok)(vd:∀q∈((x.rp t).recv (f:Int) m).2,q.2.Gd)(sI:((x.rp t).recv (f:Int) m).2.length<=1048576):Lw N D 152 #[((P.w,0):E),J i] (dQ P x) (λ(_:Unit)e=>e=b5 (aZ (li { Ev.zero with node:=(t:Int) }))) (λ_=>dQ P (((x.del i).rF t ((x.rp t).recv (f:Int) m).1).send t ((x.rp t).recv (f:Int) m).2)) w:=by
 obtain⟨R,HR⟩:=az ((x.rp t).recv (f:Int) m);rw[<-HR.out] at vd sI ⊢;intro V sB hV;have fY:=St.begin_ sB (λb hb=>(hV b hb).1) (ft P x);obtain⟨z,wb,HZ,HB,ec⟩:=fY.new' aH 77;replace ec:=ec.perm (bg (l₁:=[_]) (l₂:=dQ P x));have De:wb.cell? (P.w,3)=some (ptr P.g):=ec.facts.1.1 3;have hC:=L_ ec he hc;unfold ptr at De;rw[HB.out] at De;go_in;go_wp2_with fail;rw[<-HB.out,<-HZ.out];refine hC.mono ?_;rintro e w1 ⟨⟨A,nb,cb⟩,rfl,eh⟩;clear hC ec De fY sB;dsimp only;obtain⟨y,wc,HY,HC,eU⟩:=eh.new' #[J f,J t,Y A nb cb] 172;replace eU:=eU.perm (bg (l₁:=[_]) (l₂:=kF P x i m _++[_]));obtain⟨v,wd,HV,HD,eI⟩:=eU.new' #[(),J t,(),(),(),(),ae ah 0,()] 77;have ez:v=y+1:=by rw[HV.out,HC.out,HY.out];simp
 replace eI:=eI.perm (bg (l₁:=[_]) (l₂:=(kF P x i m _++[_])++[_]));replace eI:St V w (kF P x i m (A,nb,cb)++[.c z 77 aH,.c y 172 #[J f,J t,Y A nb cb],.c v 77 #[(),J t,(),(),(),(),ae ah 0,()]]) wd:=eI.perm (by rw[bp,bp];exact List.Perm.refl _);clear eh eU;obtain⟨U7,⟨_,hBi,Mr,Ik⟩,hU7⟩:=eI.own.see 4 rfl;have iN:Bytes wd (wd:Nat) A nb (mB m):=In.reads (hBi.mono (V':=λb=>b<(wd:Nat)) λb hb=>(hU7 b hb).2);have QL:=LS wd A nb cb (mB m) iN Mr Ik;clear iN hBi hU7;go_wp2_with fail;rw[<-HC.out,<-HD.out,<-HY.out,<-ez];refine QL.mono ?_;rintro e w5 ⟨hMq,sk⟩;obtain⟨m',A6,c6,A7,c7,q,hM,rfl,OH,jb,jw⟩:=hMq.resolve_right (λh=>h.1 m (uQ hm XW));clear hMq;have TK:m=m':=(uQ hm XW).one hM;subst TK;have eS:=eI.join (LR.framed ⟨0,m,A6,c6,A7,q,c7⟩) sk (U:=New wd w5) OH (λb hb=>hb);replace eS:=D3 (eS.perm (List.perm_middle (l₁:=kF P x i m _)).symm);clear OH hM eI sk QL HC HD HY ez;unfold nF;go_wp2_with (refine kJ rfl (uC _ _ _ rfl) ?_;intro g w6 Z9 vg hz6 hs6;refine stay ?_);refine dN ?_;have fQ:=eS.made vg Z9 (Nat.le_of_eq hz6);go_wp2_with (refine er fQ 0 rfl 45 _ _ rfl 0 rfl (m.cells A6 c6 A7 c7) rfl (bf rfl) rfl aw (m.cells A6 c6 A7 c7).toArray rfl rfl ?_;intro w7 fK;refine stay ?_);refine dN ?_;clear fQ eS vg Z9 hz6 hs6;have gM:St V w (dQ P (x.del i)++[.c g 45 (m.cells A6 c6 A7 c7).toArray,.o (LR ⟨0,m,A6,c6,A7,q,c7⟩),.c z 77 aH,.c y 172 #[J f,J t,Y A nb cb],.c v 77 #[(),J t,(),(),(),(),ae ah 0,()]]) w7:=fK.perm (List.perm_middle (l₁:=dQ P (x.del i))).symm;clear fK;have gU:∀x' O,St V w (dQ P x'++[.c g 45 (m.cells A6 c6 A7 c7).toArray,.o (LR ⟨0,m,A6,c6,A7,q,c7⟩),.c z 77 aH,.c y 172 #[J f,J t,Y A nb cb],.c v 77 #[(),J t,(),(),(),(),ae ah 0,()]]) O->O.cell? (y,0)=some (J f)∧O.cell? (y,1)=some (J t)∧eL O g 45 (m.cells A6 c6 A7 c7).toArray:=λx' O h=>by have I:=h.perm (bg (l₂:=[_,_,_,_,_]));have Z:=I.facts.2.2.1.1;exact⟨Z 0,Z 1,I.blk 0 rfl⟩
 have xG:=sb (j8 gM (hQ.net _)) (hQ.net _) (i:=t) ht;unfold ptr at xG;obtain⟨XV,xm,_⟩:=gU _ _ gM;go_wp2_with fail;refine xG.mono ?_;rintro e w8 ⟨rfl,rfl⟩;clear xG XV xm;go_wp2_with fail;have eZ:=gM.grow (Grow.refl _).drew;have eN:=gU _ _ eZ;refine dO rfl ?_;refine fV (λO=>O.cell? (y,0)=some (J f)∧O.cell? (y,1)=some (J t)∧eL O g 45 (m.cells A6 c6 A7 c7).toArray) [] 9 rfl [0,1,2,3,4,5,6] ?_;iterate 6 (refine ff rfl eN (λw1 ⟨h0,I,Z⟩=>aM) ?_)
 refine ff (v := aZ (m.cells A6 c6 A7 c7).toArray) rfl eN (λw1 hc R W=>by rw[Aa rfl rfl hc.2.2 bG aw];exact⟨rfl,W⟩) ?_;refine fG 7 [] rfl ?_;have hC:=VZ (f:=(f:Int)) eZ (t:=t) ht X hm jb jw (bV _ (cy ..));rw[show (x.del i).rp t=x.rp t from rfl,<-HR.out] at hC;unfold nF at hC;go_wp2_with fail;refine hC.mono ?_;rintro e w4 ⟨⟨u,q9⟩,⟨rfl,hq⟩,eh⟩;dsimp only at hq eh;replace eh:=St.inn eh;have sr:=gU _ _ (St.VU eh);go_wp2_with fail;refine⟨λ_=>sr,?_⟩;refine fG 8 [] rfl ?_;have o3:=rE w4 (λ_=>False) P ((x.del i).rF t R.1) ((hQ.net _).rF t R.1) t (by show t<x.nr+x.na;omega) u q9 (λs hs=>vd (s.to,s.m) (by rw[<-hq];exact cW hs)) (by rw[<-hq] at sI;unfold eY at sI;rwa [bj] at sI);rw[hq] at o3;go_wp2_with fail;refine (St.call (a:=dQ P ((x.del i).rF t R.1)++[.o (dY u q9)]) (a':=λ(_:Unit)=>dQ P (((x.del i).rF t R.1).send t R.2)) eh (λ_=>ft _ _) eh.no o3).mono ?_;rintro e w7 ⟨_,rfl,eI⟩;have VW:=gU _ _ eI;replace eI:=eI.perm (bg (l₁:=dQ P _) (l₂:=[_,_,_,_,_]));go_wp2_with fail;refine⟨λ_=>VW,?_⟩;refine gQ ?_;clear eh sr eZ eN gU hC o3;go_wp2_with (first|(refine d_ rfl 77 _ rfl _ rfl (eI.blk 4 rfl) bZ aw ?_)|(refine er eI 2 rfl 77 _ _ rfl 0 rfl [(),J t,(),(),(),(),ae ah 0,()] rfl (bf rfl) rfl aw (li { Ev.zero with node:=(t:Int) }) rfl rfl ?_;intro w8 eS;refine stay ?_));refine dN ?_;go_wp2;refine bodyPost_ret (fF rfl _ z rfl (eS.blk 2 rfl) bZ aw) rfl ?_;obtain⟨r1,r2⟩:=(eS.drop.drop.drop.drop.drop).fin;exact⟨(),rfl,r1,r2⟩
set_option maxRecDepth 100000
set_option maxHeartbeats 1000000
def Af(w:G)(D:aV)(P:nt)(x:Wl)(hQ:qK P x)(i f a tg code n:Nat)(ha:a<x.na)(Iw:x.net[i]?=some (f,x.nr+a,fD (tg:Int) (code:Int) n))(eN:x.cut (f*8+(x.nr+a))=false)(tK:(fD (tg:Int) (code:Int) n).Gd)(a3R:lJ (fD (tg:Int) (code:Int) n)=true)(ael:Ag)(id:lZ)(cd:Nat)
 (hRc:∀(w:G)(U:aV)(p:xC),p.a=P.a a->Lw N U 210 #[((p.a,0):E),J f,aZ (jC (tg:Int) (code:Int) n)] (dV p (x.ag a)) (λ(_:Unit)e=>e=b5 (a_ #[j6 id,J cd])) (λ_=>dV p ael) w):Lw N D 152 #[((P.w,0):E),J i] (dQ P x) (λ(_:Unit)e=>e=b5 (aZ (li { Ev.zero with node:=((x.nr+a:Nat):Int),code:=(cd:Int),id:=id,n:=if cd=8 then n else 0 }))) (λ_=>dQ P ((x.del i).jQ a ael)) w:=by
 obtain⟨t,Ht⟩:=az (x.nr+a);obtain⟨aet,HN⟩:=az (if cd=8 then n else 0);rw[<-HN.out];obtain⟨m,Hm⟩:=az (fD (tg:Int) (code:Int) n);have he:=Iw;have hc:=eN;have hm:=tK;have XW:=a3R;rw[<-Ht.out,<-Hm.out] at he;rw[<-Ht.out] at hc ⊢;rw[<-Hm.out] at hm XW;clear Iw eN tK a3R;intro V sB hV;have fY:=St.begin_ sB (λb hb=>(hV b hb).1) (ft P x);obtain⟨z,wb,HZ,HB,ec⟩:=fY.new' aH 77;replace ec:=ec.perm (bg (l₁:=[_]) (l₂:=dQ P x));have De:wb.cell? (P.w,3)=some (ptr P.g):=ec.facts.1.1 3;have hC:=L_ ec he hc;unfold ptr at De;rw[HB.out] at De;go_in;go_wp2_with fail;rw[<-HB.out,<-HZ.out];refine hC.mono ?_;rintro e w1 ⟨⟨A,nb,cb⟩,rfl,eh⟩;clear hC ec De fY sB;dsimp only;obtain⟨y,wc,HY,HC,eU⟩:=eh.new' #[J f,J t,Y A nb cb] 172;replace eU:=eU.perm (bg (l₁:=[_]) (l₂:=kF P x i m _++[_]));obtain⟨v,wd,HV,HD,eI⟩:=eU.new' #[(),J t,(),(),(),(),ae ah 0,()] 77;have ez:v=y+1:=by rw[HV.out,HC.out,HY.out];simp
 replace eI:=eI.perm (bg (l₁:=[_]) (l₂:=(kF P x i m _++[_])++[_]));replace eI:St V w (kF P x i m (A,nb,cb)++[.c z 77 aH,.c y 172 #[J f,J t,Y A nb cb],.c v 77 #[(),J t,(),(),(),(),ae ah 0,()]]) wd:=eI.perm (by rw[bp,bp];exact List.Perm.refl _);clear eh eU;obtain⟨U7,⟨_,hBi,Mr,Ik⟩,hU7⟩:=eI.own.see 4 rfl;have iN:Bytes wd (wd:Nat) A nb (mB m):=In.reads (hBi.mono (V':=λb=>b<(wd:Nat)) λb hb=>(hU7 b hb).2);have QL:=LS wd A nb cb (mB m) iN Mr Ik;clear iN hBi hU7;go_wp2_with fail;rw[<-HC.out,<-HD.out,<-HY.out,<-ez];refine QL.mono ?_;rintro e w5 ⟨hMq,sk⟩;obtain⟨m',A6,c6,A7,c7,q,hM,rfl,OH,jb,jw⟩:=hMq.resolve_right (λh=>h.1 m (uQ hm XW));clear hMq;have TK:m=m':=(uQ hm XW).one hM;subst TK;have eS:=eI.join (LR.framed ⟨0,m,A6,c6,A7,q,c7⟩) sk (U:=New wd w5) OH (λb hb=>hb);replace eS:=D3 (eS.perm (List.perm_middle (l₁:=kF P x i m _)).symm);clear OH hM eI sk QL HC HD HY ez;unfold nF;go_wp2_with (refine kJ rfl (uC _ _ _ rfl) ?_;intro g w6 Z9 vg hz6 hs6;refine stay ?_);refine dN ?_;have fQ:=eS.made vg Z9 (Nat.le_of_eq hz6);go_wp2_with (refine er fQ 0 rfl 45 _ _ rfl 0 rfl (m.cells A6 c6 A7 c7) rfl (bf rfl) rfl aw (m.cells A6 c6 A7 c7).toArray rfl rfl ?_;intro w7 fK;refine stay ?_);refine dN ?_;clear fQ eS vg Z9 hz6 hs6;have gM:St V w (dQ P (x.del i)++[.c g 45 (m.cells A6 c6 A7 c7).toArray,.o (LR ⟨0,m,A6,c6,A7,q,c7⟩),.c z 77 aH,.c y 172 #[J f,J t,Y A nb cb],.c v 77 #[(),J t,(),(),(),(),ae ah 0,()]]) w7:=fK.perm (List.perm_middle (l₁:=dQ P (x.del i))).symm;clear fK;have gU:∀x' O,St V w (dQ P x'++[.c g 45 (m.cells A6 c6 A7 c7).toArray,.o (LR ⟨0,m,A6,c6,A7,q,c7⟩),.c z 77 aH,.c y 172 #[J f,J t,Y A nb cb],.c v 77 #[(),J t,(),(),(),(),ae ah 0,()]]) O->O.cell? (y,0)=some (J f)∧O.cell? (y,1)=some (J t)∧eL O g 45 (m.cells A6 c6 A7 c7).toArray:=λx' O h=>by have I:=h.perm (bg (l₂:=[_,_,_,_,_]));have Z:=I.facts.2.2.1.1;exact⟨Z 0,Z 1,I.blk 0 rfl⟩
 have xG:=GM (j8 gM (hQ.net _)) (i:=(t:Int)) (by right;rw[Ht.out];show ((x.nr:Nat):Int)<=_;omega);obtain⟨XV,xm,_⟩:=gU _ _ gM;go_wp2_with fail;refine xG.mono ?_;rintro e w8 ⟨rfl,rfl⟩;clear xG XV xm;go_wp2_with fail;have eZ:=gM.grow (Grow.refl _).drew;have eN:=gU _ _ eZ;have hce:(m.cells A6 c6 A7 c7).toArray=jC (tg:Int) (code:Int) n:=by obtain⟨rfl,rfl⟩:=jb (by rw[Hm.out];show (2:Int)≠1;decide);obtain⟨rfl,rfl⟩:=jw (by rw[Hm.out];show (2:Int)≠4;decide) (by rw[Hm.out];show (2:Int)≠5;decide);rw[Hm.out];rfl
 refine dO rfl ?_;refine fV (λO=>O.cell? (y,0)=some (J f)∧O.cell? (y,1)=some (J t)∧eL O g 45 (m.cells A6 c6 A7 c7).toArray) [] 15 rfl [0,1,2,4,5,6] ?_;iterate 5 (refine ff rfl eN (λw1 ⟨h0,I,Z⟩=>aM) ?_)
 refine ff (v := aZ (m.cells A6 c6 A7 c7).toArray) rfl eN (λw1 hc R W=>by rw[Aa rfl rfl hc.2.2 bG aw];exact⟨rfl,W⟩) ?_;refine fG 3 [] rfl ?_;have Di:=rD (j8 eZ (hQ.net _)) (hQ.net _) (i:=a) ha;rw[show (((x.del i).nr+a:Nat):Int)=(t:Int) by rw[Ht.out];rfl] at Di;unfold ptr at Di;go_wp2_with fail;refine Di.mono ?_;rintro e w3 ⟨rfl,rfl⟩;go_wp2_with fail;refine⟨λ_=>eN,?_⟩;refine fG 7 [8,9,10,11] rfl ?_;have hC:=m7 (ι:=Unit) (f:=210) (args:=#[.pointer (some ⟨P.a a,0,none⟩),J f,aZ (jC (tg:Int) (code:Int) n)]) (C:=λ_ e=>e=b5 (a_ #[j6 id,J cd])) (y:=λ_=>ael) (ex:=λ_=>[]) eZ ha (λ_=>trivial) (λU p hp _=>by rw[<-hp];exact hRc _ U p hp);rw[hce];go_wp2_with fail;refine hC.mono ?_;rintro e w4 ⟨_,rfl,eh⟩;replace eh:St V w (dQ P ((x.del i).jQ a ael)++[_,_,_,_,_]) w4:=eh;have sr:=gU _ _ eh;rw[hce] at sr eh;replace eh:=eh.perm (bg (l₁:=dQ P _) (l₂:=[_,_,_,_,_]));clear hC hRc Di eZ eN gU gM;go_wp2_with fail;refine⟨λ_=>sr,?_⟩;iterate 4 (refine ff rfl sr (λw1 ⟨h0,I,Z⟩=>aM) ?_)
 refine fG 12 [13] rfl ?_;go_wp2_with (refine er eh 4 rfl 37 _ _ rfl 3 rfl [J id.1,J id.2.1,J id.2.2] rfl (bf rfl) rfl aw #[(),J t,(),J id.1,J id.2.1,J id.2.2,ae ah 0,()] rfl rfl ?_;intro w5 eI;refine stay ?_);refine dN ?_;have Ej:w5.cell? (y,0)=some (J f)∧w5.cell? (y,1)=some (J t)∧eL w5 g 45 (jC (tg:Int) (code:Int) n):=by have Z:=eI.facts.2.2.1.1;exact⟨Z 0,Z 1,eI.blk 0 rfl⟩
 clear eh sr;go_wp2_with fail;refine⟨λ_=>Ej,?_⟩;refine ff rfl Ej (λw1 ⟨h0,I,Z⟩=>aM) ?_;refine fG 14 [] rfl ?_;go_wp2_with (refine fB eI 4 rfl 3 (.tmp 64) (.tmp 62) rfl 2 rfl (J cd) rfl (bf rfl) rfl aw rfl ?_;intro w6 eS;refine stay ?_);refine dN ?_;have eS:St V w ([.c g 45 (jC (tg:Int) (code:Int) n),.o (LR ⟨0,m,A6,c6,A7,q,c7⟩),.c z 77 aH,.c y 172 #[J f,J t,Y A nb cb],.c v 77 #[(),J t,J cd,J id.1,J id.2.1,J id.2.2,ae ah 0,()]]++dQ P ((x.del i).jQ a ael)) w6:=eS;have lE:w6.cell? (y,0)=some (J f)∧w6.cell? (y,1)=some (J t)∧eL w6 g 45 (jC (tg:Int) (code:Int) n):=by have Z:=eS.facts.2.2.1.1;exact⟨Z 0,Z 1,eS.blk 0 rfl⟩
 clear eI Ej;go_wp2_with fail;refine⟨λ_=>lE,?_⟩;refine gQ ?_;have sV:w6.cell? (v,2)=some (J cd):=eS.facts.2.2.2.1.1 2;have wh:w6.cell? (g,12)=some (ae ah n):=eS.facts.1.1 12;clear lE;by_cases h8:cd=8
 ·have d8:((cd:Int) == 8)=true:=beq_iff_eq.mpr ap
  have hN:Hid (aet=n):=Q (by rw[HN.out,aA h8]);clear h8;go_wp2_with (refine fB eS 4 rfl 42 (.tmp 70) (.tmp 69) rfl 6 rfl (ae ah n) rfl (bf rfl) rfl aw rfl ?_;intro w7 fQ;refine stay ?_);refine dN ?_;have fQ:St V w ([.c g 45 (jC (tg:Int) (code:Int) n),.o (LR ⟨0,m,A6,c6,A7,q,c7⟩),.c z 77 aH,.c y 172 #[J f,J t,Y A nb cb],.c v 77 #[(),J t,J cd,J id.1,J id.2.1,J id.2.2,ae ah n,()]]++dQ P ((x.del i).jQ a ael)) w7:=fQ;clear eS sV wh;go_wp2_with (first|(refine d_ rfl 77 _ rfl _ rfl (fQ.blk 4 rfl) bZ aw ?_)|(refine er fQ 2 rfl 77 _ _ rfl 0 rfl [(),J t,J cd,J id.1,J id.2.1,J id.2.2,ae ah n,()] rfl (bf rfl) rfl aw (li { Ev.zero with node:=(t:Int),code:=(cd:Int),id:=id,n:=n }) rfl rfl ?_;intro w8 fK;refine stay ?_));refine dN ?_;go_wp2;refine bodyPost_ret (fF rfl _ z rfl (fK.blk 2 rfl) bZ aw) rfl ?_;obtain⟨r1,r2⟩:=(fK.drop.drop.drop.drop.drop).fin;exact⟨(),by rw[hN.out],r1,r2⟩
 ·have d8:((cd:Int) == 8)=false:=beq_eq_false_iff_ne.mpr ap
  have hN:Hid (aet=0):=Q (by rw[HN.out,aB h8]);clear h8;go_wp2_with (first|(refine d_ rfl 77 _ rfl _ rfl (eS.blk 4 rfl) bZ aw ?_)|(refine er eS 2 rfl 77 _ _ rfl 0 rfl [(),J t,J cd,J id.1,J id.2.1,J id.2.2,ae ah 0,()] rfl (bf rfl) rfl aw (li { Ev.zero with node:=(t:Int),code:=(cd:Int),id:=id,n:=0 }) rfl rfl ?_;intro w8 fK;refine stay ?_));refine dN ?_;go_wp2;refine bodyPost_ret (fF rfl _ z rfl (fK.blk 2 rfl) bZ aw) rfl ?_;obtain⟨r1,r2⟩:=(fK.drop.drop.drop.drop.drop).fin;exact⟨(),by rw[hN.out],r1,r2⟩
set_option maxRecDepth 100000
set_option maxHeartbeats 1000000
def GU(w:G)(D:aV)(P:nt)(x x':Wl)(a b n:Int)(s:aR)(ev:Ev)(hc:∀w D,Lw N D 151 #[((P.w,0):E),aZ (jz ⟨1,a,b,n,s⟩)] (dQ P x) (λ(_:Unit)e=>e=b5 (aZ (li ev))) (λ_=>dQ P x') w):Lw N D 88 #[((P.w,0):E),aZ (jz ⟨1,a,b,n,s⟩)] (dQ P x) (λ(_:Unit)e=>e=b5 (aZ (li ev))) (λ_=>dQ P x') w:=by
 intro V sB hV;have fY:=St.begin_ sB (λb hb=>(hV b hb).1) (ft P x);obtain⟨y,wa,HY,HA,eC⟩:=fY.new' (jz ⟨1,a,b,n,s⟩) 75;obtain⟨z,wb,HZ,HB,ec⟩:=eC.new' aH 77;have ez:z=y+1:=by rw[HZ.out,HA.out,HY.out];simp
 replace ec:=ec.perm (bg (l₁:=[_,_]) (l₂:=dQ P x));have hy:=(ec.perm (bg (l₂:=[_,_]))).facts.2.1.1;have y0:wb.cell? (y,0)=some (J 1):=hy 0;have hC:=St.call (a:=dQ P x) (a':=λ(_:Unit)=>dQ P x') ec (λ_=>ft _ _) ec.no (hc wb (λ_=>False));unfold jz at HA hC ⊢;dsimp only at HA hC ⊢;rw[HB.out,HA.out] at y0;rw[HY.out] at y0;clear hy;go_in;go_wp2_with fail;rw[<-HA.out,<-HB.out,<-HY.out,<-ez];go_wp2_with fail;refine hC.mono ?_;rintro e w2 ⟨_,rfl,eh⟩;replace eh:=eh.perm (bg (l₁:=dQ P _) (l₂:=[_,_]));clear hC ec y0 HA HB HY HZ ez fY eC;go_wp2_with (refine er eh 0 rfl 77 _ _ rfl 0 rfl [J ev.why,J ev.node,J ev.code,J ev.id.1,J ev.id.2.1,J ev.id.2.2,ae ah ev.n,J ev.bag] rfl (bf rfl) rfl aw (li ev) rfl rfl ?_;intro w3 eU;refine stay ?_);refine dN ?_;go_wp2;refine bodyPost_ret (fF rfl _ z rfl (eU.blk 0 rfl) bZ aw) rfl ?_;obtain⟨r1,r2⟩:=(eU.drop.drop).fin;exact⟨(),rfl,r1,r2⟩
def oz(w:G)(D:aV)(P:nt)(x x':Wl)(a b n:Int)(s:aR)(ev:Ev)(hc:∀w D,Lw N D 152 #[((P.w,0):E),J n] (dQ P x) (λ(_:Unit)e=>e=b5 (aZ (li ev))) (λ_=>dQ P x') w):Lw N D 88 #[((P.w,0):E),aZ (jz ⟨2,a,b,n,s⟩)] (dQ P x) (λ(_:Unit)e=>e=b5 (aZ (li ev))) (λ_=>dQ P x') w:=by
 intro V sB hV;have fY:=St.begin_ sB (λb hb=>(hV b hb).1) (ft P x);obtain⟨y,wa,HY,HA,eC⟩:=fY.new' (jz ⟨2,a,b,n,s⟩) 75;obtain⟨z,wb,HZ,HB,ec⟩:=eC.new' aH 77;have ez:z=y+1:=by rw[HZ.out,HA.out,HY.out];simp
 replace ec:=ec.perm (bg (l₁:=[_,_]) (l₂:=dQ P x));have hy:=(ec.perm (bg (l₂:=[_,_]))).facts.2.1.1;have y0:wb.cell? (y,0)=some (J 2):=hy 0;have hC:=St.call (a:=dQ P x) (a':=λ(_:Unit)=>dQ P x') ec (λ_=>ft _ _) ec.no (hc wb (λ_=>False));unfold jz at HA hC ⊢;dsimp only at HA hC ⊢;rw[HB.out,HA.out] at y0;rw[HY.out] at y0;clear hy;go_in;go_wp2_with fail;rw[<-HA.out,<-HB.out,<-HY.out,<-ez];go_wp2_with fail;refine hC.mono ?_;rintro e w2 ⟨_,rfl,eh⟩;replace eh:=eh.perm (bg (l₁:=dQ P _) (l₂:=[_,_]));clear hC ec y0 HA HB HY HZ ez fY eC;go_wp2_with (refine er eh 0 rfl 77 _ _ rfl 0 rfl [J ev.why,J ev.node,J ev.code,J ev.id.1,J ev.id.2.1,J ev.id.2.2,ae ah ev.n,J ev.bag] rfl (bf rfl) rfl aw (li ev) rfl rfl ?_;intro w3 eU;refine stay ?_);refine dN ?_;go_wp2;refine bodyPost_ret (fF rfl _ z rfl (eU.blk 0 rfl) bZ aw) rfl ?_;obtain⟨r1,r2⟩:=(eU.drop.drop).fin;exact⟨(),rfl,r1,r2⟩
def Og(w:G)(D:aV)(P:nt)(x x':Wl)(a b n:Int)(s:aR)(ev:Ev)(hc:∀w D,Lw N D 159 #[((P.w,0):E),aZ (jz ⟨9,a,b,n,s⟩)] (dQ P x) (λ(_:Unit)e=>e=b5 (aZ (li ev))) (λ_=>dQ P x') w):Lw N D 88 #[((P.w,0):E),aZ (jz ⟨9,a,b,n,s⟩)] (dQ P x) (λ(_:Unit)e=>e=b5 (aZ (li ev))) (λ_=>dQ P x') w:=by
 intro V sB hV;have fY:=St.begin_ sB (λb hb=>(hV b hb).1) (ft P x);obtain⟨y,wa,HY,HA,eC⟩:=fY.new' (jz ⟨9,a,b,n,s⟩) 75;obtain⟨z,wb,HZ,HB,ec⟩:=eC.new' aH 77;have ez:z=y+1:=by rw[HZ.out,HA.out,HY.out];simp
 replace ec:=ec.perm (bg (l₁:=[_,_]) (l₂:=dQ P x));have hy:=(ec.perm (bg (l₂:=[_,_]))).facts.2.1.1;have y0:wb.cell? (y,0)=some (J 9):=hy 0;have hC:=St.call (a:=dQ P x) (a':=λ(_:Unit)=>dQ P x') ec (λ_=>ft _ _) ec.no (hc wb (λ_=>False));unfold jz at HA hC ⊢;dsimp only at HA hC ⊢;rw[HB.out,HA.out] at y0;rw[HY.out] at y0;clear hy;go_in;go_wp2_with fail;rw[<-HA.out,<-HB.out,<-HY.out,<-ez];go_wp2_with fail;refine hC.mono ?_;rintro e w2 ⟨_,rfl,eh⟩;replace eh:=eh.perm (bg (l₁:=dQ P _) (l₂:=[_,_]));clear hC ec y0 HA HB HY HZ ez fY eC;go_wp2_with (refine er eh 0 rfl 77 _ _ rfl 0 rfl [J ev.why,J ev.node,J ev.code,J ev.id.1,J ev.id.2.1,J ev.id.2.2,ae ah ev.n,J ev.bag] rfl (bf rfl) rfl aw (li ev) rfl rfl ?_;intro w3 eU;refine stay ?_);refine dN ?_;go_wp2;refine bodyPost_ret (fF rfl _ z rfl (eU.blk 0 rfl) bZ aw) rfl ?_;obtain⟨r1,r2⟩:=(eU.drop.drop).fin;exact⟨(),rfl,r1,r2⟩
def Kk(w:G)(D:aV)(P:nt)(x x':Wl)(a b n:Int)(s:aR)(ev:Ev)(hc:∀w D,Lw N D 159 #[((P.w,0):E),aZ (jz ⟨10,a,b,n,s⟩)] (dQ P x) (λ(_:Unit)e=>e=b5 (aZ (li ev))) (λ_=>dQ P x') w):Lw N D 88 #[((P.w,0):E),aZ (jz ⟨10,a,b,n,s⟩)] (dQ P x) (λ(_:Unit)e=>e=b5 (aZ (li ev))) (λ_=>dQ P x') w:=by
 intro V sB hV;have fY:=St.begin_ sB (λb hb=>(hV b hb).1) (ft P x);obtain⟨y,wa,HY,HA,eC⟩:=fY.new' (jz ⟨10,a,b,n,s⟩) 75;obtain⟨z,wb,HZ,HB,ec⟩:=eC.new' aH 77;have ez:z=y+1:=by rw[HZ.out,HA.out,HY.out];simp
 replace ec:=ec.perm (bg (l₁:=[_,_]) (l₂:=dQ P x));have hy:=(ec.perm (bg (l₂:=[_,_]))).facts.2.1.1;have y0:wb.cell? (y,0)=some (J 10):=hy 0;have hC:=St.call (a:=dQ P x) (a':=λ(_:Unit)=>dQ P x') ec (λ_=>ft _ _) ec.no (hc wb (λ_=>False));unfold jz at HA hC ⊢;dsimp only at HA hC ⊢;rw[HB.out,HA.out] at y0;rw[HY.out] at y0;clear hy;go_in;go_wp2_with fail;rw[<-HA.out,<-HB.out,<-HY.out,<-ez];go_wp2_with fail;refine hC.mono ?_;rintro e w2 ⟨_,rfl,eh⟩;replace eh:=eh.perm (bg (l₁:=dQ P _) (l₂:=[_,_]));clear hC ec y0 HA HB HY HZ ez fY eC;go_wp2_with (refine er eh 0 rfl 77 _ _ rfl 0 rfl [J ev.why,J ev.node,J ev.code,J ev.id.1,J ev.id.2.1,J ev.id.2.2,ae ah ev.n,J ev.bag] rfl (bf rfl) rfl aw (li ev) rfl rfl ?_;intro w3 eU;refine stay ?_);refine dN ?_;go_wp2;refine bodyPost_ret (fF rfl _ z rfl (eU.blk 0 rfl) bZ aw) rfl ?_;obtain⟨r1,r2⟩:=(eU.drop.drop).fin;exact⟨(),rfl,r1,r2⟩
def Kl(w:G)(D:aV)(P:nt)(x x':Wl)(a b n:Int)(s:aR)(ev:Ev)(hc:∀w D,Lw N D 159 #[((P.w,0):E),aZ (jz ⟨13,a,b,n,s⟩)] (dQ P x) (λ(_:Unit)e=>e=b5 (aZ (li ev))) (λ_=>dQ P x') w):Lw N D 88 #[((P.w,0):E),aZ (jz ⟨13,a,b,n,s⟩)] (dQ P x) (λ(_:Unit)e=>e=b5 (aZ (li ev))) (λ_=>dQ P x') w:=by
 intro V sB hV;have fY:=St.begin_ sB (λb hb=>(hV b hb).1) (ft P x);obtain⟨y,wa,HY,HA,eC⟩:=fY.new' (jz ⟨13,a,b,n,s⟩) 75;obtain⟨z,wb,HZ,HB,ec⟩:=eC.new' aH 77;have ez:z=y+1:=by rw[HZ.out,HA.out,HY.out];simp
 replace ec:=ec.perm (bg (l₁:=[_,_]) (l₂:=dQ P x));have hy:=(ec.perm (bg (l₂:=[_,_]))).facts.2.1.1;have y0:wb.cell? (y,0)=some (J 13):=hy 0;have hC:=St.call (a:=dQ P x) (a':=λ(_:Unit)=>dQ P x') ec (λ_=>ft _ _) ec.no (hc wb (λ_=>False));unfold jz at HA hC ⊢;dsimp only at HA hC ⊢;rw[HB.out,HA.out] at y0;rw[HY.out] at y0;clear hy;go_in;go_wp2_with fail;rw[<-HA.out,<-HB.out,<-HY.out,<-ez];go_wp2_with fail;refine hC.mono ?_;rintro e w2 ⟨_,rfl,eh⟩;replace eh:=eh.perm (bg (l₁:=dQ P _) (l₂:=[_,_]));clear hC ec y0 HA HB HY HZ ez fY eC;go_wp2_with (refine er eh 0 rfl 77 _ _ rfl 0 rfl [J ev.why,J ev.node,J ev.code,J ev.id.1,J ev.id.2.1,J ev.id.2.2,ae ah ev.n,J ev.bag] rfl (bf rfl) rfl aw (li ev) rfl rfl ?_;intro w3 eU;refine stay ?_);refine dN ?_;go_wp2;refine bodyPost_ret (fF rfl _ z rfl (eU.blk 0 rfl) bZ aw) rfl ?_;obtain⟨r1,r2⟩:=(eU.drop.drop).fin;exact⟨(),rfl,r1,r2⟩
set_option maxRecDepth 100000
set_option maxHeartbeats 1000000
def M0(w:G)(g:Nat)(nodes:Int)(l:List Ne.Lb)(P:aO)(V:aV)(h:Ne.fm g nodes l P w V):dF N 89 #[g] w λe O=>e=b5 (J l.length)∧w=O:=by
 obtain⟨_,v,q,R,D,iH,_,_,_,hB,ly,_⟩:=h;have hl:l.length=q.length:=by rw[<-iH,bj]
 rw[hl];clear hl iH;obtain⟨A0,c0,rfl,_⟩:=ly.kB;have c1:w.cell? (g,1)=some (Y A0 q.length c0):=hB.cell 1;go_in;go_wp2;go_ret;exact⟨rfl,rfl⟩
def Se(w:G)(D:aV)(P:nt)(x:Wl)(V_:List Lt3)(cut':aO)(a b n r:Int)(s:aR)(hT:∀w,j9 N 153 #[((P.g,0):E),J n] (λe=>e=b5 (J r)) (Ne.fm P.g (x.nn:Int) (x.net.map kE) x.cut) (Ne.fm P.g (x.nn:Int) (V_.map kE) cut') w):Lw N D 88 #[((P.w,0):E),aZ (jz ⟨3,a,b,n,s⟩)] (dQ P x) (λ(_:Unit)e=>e=b5 (aZ (li { Ev.zero with why:=r }))) (λ_=>dQ P { x with net:=V_,cut:=cut' }) w:=by
 intro V sB hV;have fY:=St.begin_ sB (λb hb=>(hV b hb).1) (ft P x);obtain⟨y,wa,HY,HA,eC⟩:=fY.new' (jz ⟨3,a,b,n,s⟩) 75;obtain⟨z,wb,HZ,HB,ec⟩:=eC.new' aH 77;have ez:z=y+1:=by rw[HZ.out,HA.out,HY.out];simp
 replace ec:=ec.perm (bg (l₁:=[_,_]) (l₂:=dQ P x));have hy:=(ec.perm (bg (l₂:=[_,_]))).facts.2.1.1;have y0:wb.cell? (y,0)=some (J 3):=hy 0;have gU:∀x' O,St V w (dQ P x'++[.c z 77 aH,.c y 75 (jz ⟨3,a,b,n,s⟩)]) O->O.cell? (P.w,3)=some (((P.g,0):E))∧O.cell? (y,1)=some (J a)∧O.cell? (y,2)=some (J b)∧O.cell? (y,3)=some (J n):=λx' O h=>by have Z:=(h.perm (bg (l₂:=[_,_]))).facts.2.1.1;exact⟨h.facts.1.1 3,Z 1,Z 2,Z 3⟩
 unfold jz at HA ⊢;dsimp only at HA ⊢;rw[HB.out,HA.out,HY.out] at y0;clear hy;go_in;go_wp2_with fail;rw[<-HA.out,<-HB.out,<-HY.out,<-ez];clear y0 HA HB HY HZ ez fY eC;have eZ:=ec.grow (Grow.refl _).drew;have eN:=gU _ _ eZ;refine dO rfl ?_;refine fV (λO=>O.cell? (P.w,3)=some (((P.g,0):E))∧O.cell? (y,1)=some (J a)∧O.cell? (y,2)=some (J b)∧O.cell? (y,3)=some (J n)) [] 9 rfl [0,1,2,3,4,5] ?_;iterate 6 (refine ff rfl eN (λw1 ⟨h0,I,Z,T⟩=>aM) ?_)
 refine fG 6 [7] rfl ?_;have hC:=eZ.at_ 4 (wj P x _) (S':=λ(_:Unit)=>Ne.fm P.g (x.nn:Int) (V_.map kE) cut') (λ_=>Ne.fm.framed _ _ _ _) eZ.no (Lw.turns (hT wb.drew));go_wp2_with fail;refine hC.mono ?_;rintro e w2 ⟨_,rfl,eh⟩;replace eh:St V w (dQ P { x with net:=V_,cut:=cut' }++[_,_]) w2:=eh;have tP:=gU _ _ eh;go_wp2_with fail;refine⟨λ_=>tP,?_⟩;refine ff rfl tP (λw1 ⟨h0,I,Z,T⟩=>aM) ?_;refine fG 8 [] rfl ?_;replace eh:=eh.perm (bg (l₁:=dQ P _) (l₂:=[_,_]));go_wp2_with (refine er eh 0 rfl 77 _ _ rfl 0 rfl [J r,(),(),(),(),(),ae ah 0,()] rfl (bf rfl) rfl aw (li { Ev.zero with why:=r }) rfl rfl ?_;intro w5 eI;refine stay ?_);refine dN ?_;go_wp2_with fail;refine⟨⟨eI.facts.2.2.1.1 3,eI.facts.2.1.1 1,eI.facts.2.1.1 2,eI.facts.2.1.1 3⟩,?_⟩;refine gQ ?_;go_wp2;refine bodyPost_ret (fF rfl _ z rfl (eI.blk 0 rfl) bZ aw) rfl ?_;obtain⟨r1,r2⟩:=(eI.drop.drop).fin;exact⟨(),rfl,r1,r2⟩
set_option maxRecDepth 100000
set_option maxHeartbeats 1000000
def W0{f:FuncId}{d:Nat}{ι:Type}{C:ι->Ending->Prop}{ex:ι->List Bl}{x:Rp}{x':ι->Rp}{g':ι->Nat}(h:∀p g,p.r=r->Lw N D f args (dS p g x) C (λi=>ex i++dS p (g' i) (x' i)) w):Lw N D f args [.o (vh r d x)] C (λi=>ex i++[.o (vh r d (x' i))]) w:=Lw.obj (κ:=PG r d) (o:=λk=>dS k.1.1 k.1.2 x) (o':=λk i=>dS k.1.1 (g' i) (x' i)) (λ_ ⟨p,g,I,Z,T⟩=>⟨⟨(p,g),I,Z⟩,T,h p g I⟩) λk i _ _ hM=>⟨k.1.1,g' i,k.2.1,k.2.2,hM⟩
def Sf(w:G)(D:aV)(P:nt)(x:Wl)(hQ:qK P x)(i:Nat)(hi:i<x.nr)(X:(x.rp i).Ok)(ht:(x.rp i).s.c.t<=1099511627776)(b n:Int)(s:aR)(vd:∀q∈((x.rp i).lead).2,q.2.Gd)(sI:((x.rp i).lead).2.length<=1048576):Lw N D 88 #[((P.w,0):E),aZ (jz ⟨8,(i:Int),b,n,s⟩)] (dQ P x) (λ(_:Unit)e=>e=b5 (aZ (li { Ev.zero with node:=(i:Int) }))) (λ_=>dQ P ((x.rF i ((x.rp i).lead).1).send i ((x.rp i).lead).2)) w:=by
 obtain⟨R,HR⟩:=az ((x.rp i).lead);rw[<-HR.out] at vd sI ⊢;have xf:i<x.nn:=by show i<x.nr+x.na;omega
 intro V sB hV;have fY:=St.begin_ sB (λb hb=>(hV b hb).1) (ft P x);obtain⟨y,wa,HY,HA,eC⟩:=fY.new' (jz ⟨8,(i:Int),b,n,s⟩) 75;obtain⟨z,wb,HZ,HB,ec⟩:=eC.new' aH 77;have ez:z=y+1:=by rw[HZ.out,HA.out,HY.out];simp
 replace ec:=ec.perm (bg (l₁:=[_,_]) (l₂:=dQ P x));have hF:=j8 ec hQ;have xG:=sb hF hQ hi;have hy:=(ec.perm (bg (l₂:=[_,_]))).facts.2.1.1;have y0:wb.cell? (y,0)=some (J 8):=hy 0;have y1:wb.cell? (y,1)=some (J i):=hy 1;rw[HB.out,HA.out,HY.out] at y0 y1;have gU:∀x' O,St V w (dQ P x'++[.c z 77 aH,.c y 75 (jz ⟨8,(i:Int),b,n,s⟩)]) O->O.cell? (y,1)=some (J i):=λx' O h=>(h.perm (bg (l₂:=[_,_]))).facts.2.1.1 1;unfold jz at HA y0 y1 ⊢;unfold ptr at xG;dsimp only at HA y0 y1 ⊢;clear hF hy;go_in;go_wp2_with fail;rw[<-HA.out,<-HB.out,<-HY.out,<-ez];refine xG.mono ?_;rintro e w1 ⟨rfl,rfl⟩;clear xG HA HB HY HZ ez fY eC y0 y1;go_wp2_with fail;have eZ:=ec.grow (Grow.refl _).drew;have eN:=gU _ _ eZ;refine dO rfl ?_;refine fV (λO=>O.cell? (y,1)=some (J i)) [] 6 rfl [0,1,2,3] ?_;iterate 4 (refine ff rfl eN (λw1 I=>aM) ?_)
 refine fG 4 [] rfl ?_;have hC:=D1 (ι:=(E×List Sd)×Nat) (f:=18) (args:=#[.pointer (some ⟨P.r i,0,none⟩)]) (C:=λj e=>e=b5 j.1.1∧eY j.1.2=R.2) (y:=λ_=>R.1) (ex:=λj=>[.o (dY j.1.1 j.1.2)]) eZ hi (λ_=>⟨dY.framed _ _,trivial⟩) (λU _=>W0 (g':=λj=>j.2) λp g hp=>by rw[<-hp,HR.out];exact λV hM hV=>Rz wb.drew p g (x.rp i) X ht V hM (λb hb=>⟨(hV b hb).1,id⟩));go_wp2_with fail;refine hC.mono ?_;rintro e w4 ⟨⟨⟨u,q⟩,g⟩,⟨rfl,hq⟩,eh⟩;dsimp only at hq eh;replace eh:=St.inn eh;have sr:=gU _ _ (St.VU eh);go_wp2_with fail;refine⟨λ_=>sr,?_⟩;refine fG 5 [] rfl ?_;have o3:=rE w4 (λ_=>False) P (x.rF i R.1) (hQ.rF i R.1) i xf u q (λs hs=>vd (s.to,s.m) (by rw[<-hq];exact cW hs)) (by rw[<-hq] at sI;unfold eY at sI;rwa [bj] at sI);rw[hq] at o3;go_wp2_with fail;refine (St.call (a:=dQ P (x.rF i R.1)++[.o (dY u q)]) (a':=λ(_:Unit)=>dQ P ((x.rF i R.1).send i R.2)) eh (λ_=>ft _ _) eh.no o3).mono ?_;rintro e w7 ⟨_,rfl,eI⟩;have VW:=gU _ _ eI;go_wp2_with fail;refine⟨λ_=>VW,?_⟩;refine gQ ?_;clear eh sr ec eZ eN;replace eI:=eI.perm (bg (l₁:=dQ P _) (l₂:=[_,_]));go_wp2_with (refine er eI 0 rfl 77 _ _ rfl 0 rfl [(),J i,(),(),(),(),ae ah 0,()] rfl (bf rfl) rfl aw (li { Ev.zero with node:=(i:Int) }) rfl rfl ?_;intro w8 eS;refine stay ?_);refine dN ?_;go_wp2;refine bodyPost_ret (fF rfl _ z rfl (eS.blk 0 rfl) bZ aw) rfl ?_;obtain⟨r1,r2⟩:=(eS.drop.drop).fin;exact⟨(),rfl,r1,r2⟩
set_option maxRecDepth 100000
set_option maxHeartbeats 1000000
def W3{x':Wl}{f:FuncId}{C:Ending->Prop}(hq:∀P,qK P x->qK P x')(h:∀(P:nt)(w:G)(D:aV),P.w=aeu->qK P x->Lw N D f args (dQ P x) (λ(_:Unit)e=>C e) (λ_=>dQ P x') w)(w:G)(D:aV):Lw N D f args [.o (iP aeu x)] (λ(_:Unit)e=>C e) (λ_=>[.o (iP aeu x')]) w:=Lw.obj (κ:={ P:nt // P.w=aeu∧qK P x }) (ι:=Unit) (C:=λ_ e=>C e) (S:=iP aeu x) (S':=λ_=>iP aeu x') (ex:=λ_=>[]) (o:=λP=>dQ P.1 x) (o':=λP _=>dQ P.1 x') (λ_ ⟨P,I,Z,T⟩=>⟨⟨P,I,Z⟩,T,h P w D I Z⟩) λP _ _ _ hM=>⟨P.1,P.2.1,hq _ P.2.2,hM⟩
def a3S(w:G)(D:aV)(aeu:Nat)(x x':Wl)(A:Ac)(ev:Ev)(hc:∀w D,Lw N D 88 #[aeu,aZ (jz A)] ([.o (iP aeu x)]) (λ(_:Unit)e=>e=b5 (aZ (li ev))) (λ_=>[.o (iP aeu x')]) w):Lw N D 33 #[aeu,aZ (jz A)] ([.o (iP aeu x)]) (λ(_:Unit)e=>e=b5 (aZ (li { ev with bag:=(x'.net.length:Int) }))) (λ_=>[.o (iP aeu x')]) w:=by
 obtain⟨k,a,b,n,s⟩:=A;obtain⟨B,HB0⟩:=az ((x'.net.length:Int):Int);rw[<-HB0.out];intro V sB hV;have fY:=St.begin_ sB (λb hb=>(hV b hb).1) ⟨iP.framed _ _,trivial⟩;obtain⟨y,wa,HY,HA,eC⟩:=fY.new' (jz ⟨k,a,b,n,s⟩) 75;obtain⟨z,wb,HZ,HB,ec⟩:=eC.new' aH 77;have ez:z=y+1:=by rw[HZ.out,HA.out,HY.out];simp
 have iN:=ec.blk 1 rfl;replace ec:=ec.perm (bg (l₁:=[_,_]) (l₂:=[Bl.o (iP aeu x)]));have hC:=St.call (a:=[Bl.o (iP aeu x)]) (a':=λ(_:Unit)=>[.o (iP aeu x')]) ec (λ_=>⟨iP.framed _ _,trivial⟩) ec.no (hc wb (λ_=>False));unfold jz at HA hC iN ⊢;dsimp only at HA hC iN ⊢;rw[HB.out,HA.out,HY.out] at iN;go_in;go_wp2_with (refine d_ rfl 75 _ rfl _ rfl iN Tryz.underlying75 aw ?_);rw[<-HA.out,<-HB.out,<-HY.out,<-ez];refine hC.mono ?_;rintro e w2 ⟨_,rfl,eh⟩;obtain⟨P,rfl,hQ,eh⟩:=iP.opn eh;clear hC ec HA HB HY HZ ez fY eC iN;obtain⟨v,wd,HV,HD,eU⟩:=eh.new' (li ev) 77;unfold li at HD ⊢;replace eU:=eU.perm (bg (l₁:=[_]) (l₂:=dQ P x'++_));replace eU:St V w (dQ P x'++[.c z 77 aH,.c y 75 (jz ⟨k,a,b,n,s⟩),.c v 77 (li ev)]) wd:=eU.perm (by rw[bp];exact List.Perm.refl _);have De:wd.cell? (P.w,3)=some (ptr P.g):=eU.facts.1.1 3;obtain⟨U7,hN,_⟩:=eU.own.see 4 rfl;have OG:=M0 wd P.g (x'.nn:Int) (x'.net.map kE) x'.cut U7 hN;rw[bj,<-HB0.out] at OG;unfold ptr at De;rw[HD.out] at De;clear hN;go_wp2_with fail;rw[<-HD.out,<-HV.out];refine OG.mono ?_;rintro e w5 ⟨rfl,rfl⟩;clear OG De HD HV eh;replace eU:=eU.perm (bg (l₁:=dQ P x') (l₂:=[_,_,_]));go_wp2_with (refine fB eU 2 rfl 3 (.tmp 14) (.tmp 13) rfl 7 rfl (J B) rfl (bf rfl) rfl aw rfl ?_;intro w6 eS;refine stay ?_);refine dN ?_;have eS:St V w ([.c z 77 aH,.c y 75 (jz ⟨k,a,b,n,s⟩),.c v 77 (li { ev with bag:=B })]++dQ P x') w6:=eS;clear eU;go_wp2_with (first|(refine d_ rfl 77 _ rfl _ rfl (eS.blk 2 rfl) bZ aw ?_)|(refine er eS 0 rfl 77 _ _ rfl 0 rfl [J ev.why,J ev.node,J ev.code,J ev.id.1,J ev.id.2.1,J ev.id.2.2,ae ah ev.n,J B] rfl (bf rfl) rfl aw (li { ev with bag:=B }) rfl rfl ?_;intro w8 fK;refine stay ?_));refine dN ?_;go_wp2;refine bodyPost_ret (fF rfl _ z rfl (fK.blk 0 rfl) bZ aw) rfl ?_;replace fK:St V w (dQ P x'++[]) w8:=fK.drop.drop.drop.perm (by rw[bm];exact List.Perm.refl _);obtain⟨r1,r2⟩:=(iP.cls rfl hQ fK).fin;exact⟨(),rfl,r1,r2⟩
def Sg:(Tryz.prog.info? 24).map (λi=>(i.zero,i.size,i.bytes))=some (some (.pointer none),1,8):=by kernel_rfl
def Si:(Tryz.prog.info? 105).map (λi=>(i.zero,i.size,i.bytes))=some (some (.pointer none),1,8):=by kernel_rfl
def Sj:(Tryz.prog.info? 26).map (λi=>(i.zero,i.size,i.bytes))=some (some (.pointer none),1,8):=by kernel_rfl
def prN:Elem N 155 24 1 8 (.pointer none):=⟨Tryz.underlying155,info_parts Sg,rfl,by decide,by decide⟩
def paN:Elem N 156 105 1 8 (.pointer none):=⟨Tryz.underlying156,info_parts Si,rfl,by decide,by decide⟩
def pdN:Elem N 157 26 1 8 (.pointer none):=⟨Tryz.underlying157,info_parts Sj,rfl,by decide,by decide⟩
def a3T(w:G):dF N 16 #[] w λe O=>e=b5 ((((w:Nat),0):E))∧kh (w:Nat) [] 0 O (New w O)∧Grow w O:=V.pR w
def W4(p:Nat):List E:=[ptr p]
def ptG(_:G)(_:aV)(_:Nat):Prop:=True
def sf:mr ptG:=λ_ _ _ _ _ _=>trivial
def Ey:iQ ptG:=λ_ _ _ _ _ _=>trivial
def Km:∀p,(W4 p).length=1:=λ_=>rfl
def Kn:∀p,∀u∈W4 p,u.oneCell'=true:=λp u hu=>by rw[List.mem_singleton.1 hu];rfl
abbrev uU(e:dH)(u:E)(q:aQ):ei:=iG e 1 W4 ptG u q
def rH(nr:Nat)(rl al dl:aQ)(i:Nat):Bl:=if i<nr then .o (vh (rl.getD i 0) (dl.getD i 0) (Rp.open_ i nr [])) else .o (EW (al.getD (i-nr) 0) (dl.getD i 0) (Ag.new i nr [] 1))
def iF(nr:Nat)(rl al dl:aQ)(k:Nat):List Bl:=(bF k).map (rH nr rl al dl)
def Ko(aeu g nn nr:Nat)(ur ua ud:E)(rl al dl:aQ)(k:Nat):List Bl := .c aeu 159 #[ur,ua,ud,ptr g]::.o (uU 24 ur rl)::.o (uU 105 ua al)::.o (uU 26 ud dl)::.o (Ne.fm g (nn:Int) [] (λ_=>false))::iF nr rl al dl k
def a3U{α:Type _}(a b c d e f:α)(aev:List α):([a,b,c,d,e,f]++aev).Perm ([d,a,e,c,f]++(aev++[b])):=by have h:[a,b,c,d,e,f].Perm [d,a,e,c,f,b]:=List.Perm.map (λk=>[a,b,c,d,e,f].getD k a) (by decide:[0,1,2,3,4,5].Perm [3,0,4,2,5,1]);refine (h.append_right aev).trans ?_;show ([d,a,e,c,f]++([b]++aev)).Perm _;exact List.Perm.append_left _ bg
def a02{α:Type _}(a b c d e f:α)(aev:List α):([a,b,c,d,e,f]++aev).Perm ([d,e,a,c,f]++(aev++[b])):=by have h:[a,b,c,d,e,f].Perm [d,e,a,c,f,b]:=List.Perm.map (λk=>[a,b,c,d,e,f].getD k a) (by decide:[0,1,2,3,4,5].Perm [3,4,0,2,5,1]);refine (h.append_right aev).trans ?_;show ([d,e,a,c,f]++([b]++aev)).Perm _;exact List.Perm.append_left _ bg
def rI{l:aQ}{x:Nat}(h:i<l.length):(l++[x]).getD i 0=l.getD i 0:=by simp[List.getD,List.getElem?_append_left h]
def si{l:aQ}{x:Nat}(h:i=l.length):(l++[x]).getD i 0=x:=by subst h;simp[List.getD]
def Oh{d:Nat}(Ix:k<nr)(XL:rl.length=k)(qJ:dl.length=k):iF nr (rl++[r]) al (dl++[d]) (k+1)=iF nr rl al dl k++[.o (vh r d (Rp.open_ k nr []))]:=by
 unfold iF;rw[List.range_succ,bM,List.map_singleton];congr 1
 ·refine cP λi hi=>?_
  have hi:=List.mem_range.1 hi;unfold rH;rw[aA ap,aA ap,rI ap,rI ap]
 ·unfold rH
  rw[aA Ix,si XL.symm,si qJ.symm]
def Oi{d:Nat}(Ix:¬ k<nr)(hal:al.length=k-nr)(qJ:dl.length=k):iF nr rl (al++[a]) (dl++[d]) (k+1)=iF nr rl al dl k++[.o (EW a d (Ag.new k nr [] 1))]:=by
 unfold iF;rw[List.range_succ,bM,List.map_singleton];congr 1
 ·refine cP λi hi=>?_
  have hi:=List.mem_range.1 hi;unfold rH;by_cases l8:i<nr;·rw[aA l8,aA l8,rI ap]
  ·rw[aB l8,aB l8,rI ap,rI ap]
 ·unfold rH
  rw[aB Ix,si hal.symm,si qJ.symm]
def D4:lU [] (([]:List Wo).map Wo.B) 0:=⟨rfl,rfl,λx X=>(by simp at X),λx _ h=>by have:=h.length_le;rw[k7] at this;simp at this⟩
set_option maxRecDepth 100000
set_option maxHeartbeats 1000000
def a03(w:G)(nr na:Nat)(I:1<=nr)(Z:1<=na)(h8:nr+na<=8):Lw N (λ_=>False) 81 #[J nr,J na] [] (λ(j:Nat×Nat×(E×E×E)×List Nat×List Nat×List Nat)e=>e=b5 (ptr j.1)∧j.2.2.2.1.length=nr∧j.2.2.2.2.1.length=na∧j.2.2.2.2.2.length=nr+na) (λj=>Ko j.1 j.2.1 (nr+na) nr j.2.2.1.1 j.2.2.1.2.1 j.2.2.1.2.2 j.2.2.2.1 j.2.2.2.2.1 j.2.2.2.2.2 (nr+na)) w:=by
 intro V sB hV;have fY:=St.begin_ sB (λb hb=>(hV b hb).1) trivial;have d1:decide ((nr:Int)<1)=false:=aD ap;have d2:decide ((na:Int)<0)=false:=aD ap;have d3:decide ((8:Int)<(nr:Int))=false:=aD ap;have s1:IntKind.i64.wrap (8-(nr:Int))=((8-nr:Nat):Int):=by rw[IntKind.wrap_i64];omega
 have d4:decide (8-nr<na)=false:=aD ap;obtain⟨nn,O6⟩:=az (nr+na);have s2:IntKind.i64.wrap ((nr:Int)+(na:Int))=(nn:Int):=by rw[O6.out,IntKind.wrap_i64];omega
 have hNe:=Ne.pR w (nn:Int) (by rw[O6.out];omega) (by rw[O6.out];omega);rw[<-O6.out];go_in;go_wp2_with fail;refine hNe.mono ?_;rintro e w1 ⟨rfl,hN,H⟩;clear hNe d1 d2 d3 s1 d4;have eC:=fY.join (Ne.fm.framed _ _ _ _) H (U:=New w w1) hN (λb hb=>hb);obtain⟨g,Hg⟩:=az ((w:Nat));rw[<-Hg.out] at eC ⊢;clear hN H;replace eC:=((eC.join (iG.framed sf _ _) (Grow.refl _) (U:=λ_=>False) (iG.nil (e:=26) (size:=1) (cells:=W4) (good:=ptG) w1 _) (λ_ h=>h.elim)).join (iG.framed sf _ _) (Grow.refl _) (U:=λ_=>False) (iG.nil (e:=105) (size:=1) (cells:=W4) (good:=ptG) w1 _) (λ_ h=>h.elim)).join (iG.framed sf _ _) (Grow.refl _) (U:=λ_=>False) (iG.nil (e:=24) (size:=1) (cells:=W4) (good:=ptG) w1 _) (λ_ h=>h.elim);obtain⟨aeu,wa,HW,HA,ec⟩:=eC.new' #[ay,ay,ay,g] 159;replace ec:St V w (Ko aeu g nn nr (Y none 0 0) (Y none 0 0) (Y none 0 0) [] [] [] 0) wa:=ec;go_wp2_with fail;rw[<-HA.out,<-HW.out];clear HA HW eC fY Hg;go_loopw [33] (λu wr=>∃(k:Nat)(ur ua ud:E)(rl al dl:aQ),u=J k∧k<=nn∧(rl.length=min k nr∧al.length=k-nr∧dl.length=k)∧St V w (Ko aeu g nn nr ur ua ud rl al dl k) wr) (λu _=>nn-(intOf u).toNat);case atStart=>exact⟨0,_,_,_,[],[],[],rfl,bo _,⟨by simp,by simp,rfl⟩,ec⟩
 case round=>
  obtain⟨k,ur,ua,ud,rl,al,dl,rfl,oF,⟨XL,hal,qJ⟩,L⟩:=hrel;clear ec;by_cases K:k<nn
  ·have dk:decide (k<nn)=true:=aC K
   have hDn:=a3T wr;go_wp2_with fail;refine hDn.mono ?_;rintro e w2 ⟨rfl,hD,H⟩;clear hDn;have eC:=L.join (kh.framed _ _ _) H (U:=New wr w2) hD (λb hb=>hb);obtain⟨d,Hd⟩:=az ((wr:Nat));rw[<-Hd.out] at eC ⊢;clear hD H Hd L;have cu:w2.cell? (aeu,2)=some ud:=(eC.front 1 rfl).facts.1.1 2;go_wp2_with (at_builtin;refine stay ?_);refine dN ?_;refine lP pdN sf Ey Km Kn rfl (.tmp 41) (.tmp 43) rfl rfl (eC.front 4 rfl) (Grow.refl _) (b:=d) trivial (by have:=O6.out;omega) 1 rfl ?_;intro ud' w3 eh;clear eC cu;obtain⟨Ad,Ld,cd,hud⟩:∃A aev c,ud'=Y A aev c:=by obtain⟨U,hU,_⟩:=eh.own.see 0 rfl;obtain⟨A',c',h,_⟩:=iG.sl hU;exact⟨A',_,c',h⟩
   subst hud;go_wp2_with (refine fB eh 2 rfl 157 (.tmp 46) (.tmp 44) rfl 2 rfl (Y Ad Ld cd) rfl (bf rfl) rfl aw rfl ?_;intro w4 eU;refine stay ?_);refine dN ?_;replace eU:St V w (.o (uU 26 (Y Ad Ld cd) (dl++[d]))::.o (kh d [] 0)::.c aeu 159 #[ur,ua,Y Ad Ld cd,ptr g]::.o (uU 24 ur rl)::.o (uU 105 ua al)::.o (Ne.fm g (nn:Int) [] (λ_=>false))::iF nr rl al dl k) w4:=eU;by_cases Ix:k<nr
   ·have dkr:decide (k<nr)=true:=aC Ix
    go_wp2_with fail;have eZ:=eU.grow (Grow.refl _).drew;have eN:w4.drew.cell? (aeu,0)=some ur:=(eZ.front 2 rfl).facts.1.1 0;refine dO rfl ?_;refine fV (λO=>O.cell? (aeu,0)=some ur) [13] 14 rfl [0,1,2,3,4,5,6,7] ?_;iterate 8 (refine ff rfl eN (λw1 I=>aM) ?_)
    refine fG 8 [] rfl ?_;have hf:=eZ.front 1 rfl;have hC:=St.call (a:=[.o (kh d [] 0)]) (b:=[.o (uU 26 (Y Ad Ld cd) (dl++[d])),.c aeu 159 #[ur,ua,Y Ad Ld cd,ptr g],.o (uU 24 ur rl),.o (uU 105 ua al),.o (Ne.fm g (nn:Int) [] (λ_=>false))]++iF nr rl al dl k) (a':=λp:qi=>dS p 0 (Rp.open_ k nr [])) hf (λp=>eP p _ _) hf.no (VG w4.drew (λ_=>False) d 0 k nr [] [] 0 D4 (by simp) ⟨Ix,by omega⟩);go_wp2_with fail;refine hC.mono ?_;rintro e w5 ⟨p,⟨Nt,rfl⟩,eI⟩;replace eI:=eI.cls (vh.framed p.r d (Rp.open_ k nr [])) λU hM=>⟨p,0,rfl,Nt,hM⟩;replace eI:St V w (.o (vh p.r d (Rp.open_ k nr []))::.o (uU 26 (Y Ad Ld cd) (dl++[d]))::.c aeu 159 #[ur,ua,Y Ad Ld cd,ptr g]::.o (uU 24 ur rl)::.o (uU 105 ua al)::.o (Ne.fm g (nn:Int) [] (λ_=>false))::iF nr rl al dl k) w5:=eI;have Ej:w5.cell? (aeu,0)=some ur:=(eI.front 2 rfl).facts.1.1 0;obtain⟨r,Hr⟩:=az (p.r);rw[<-Hr.out] at eI ⊢;clear hC hf eZ eN eU eh Hr Nt;go_wp2_with fail;refine⟨λ_=>Ej,?_⟩;refine fG 9 [] rfl ?_;go_wp2_with fail;have eS:=eI.new' #[r] 24;obtain⟨y9,w9,_,HW9,eS⟩:=eS;have lE:w9.cell? (aeu,0)=some ur:=(eS.front 3 rfl).facts.1.1 0;rw[HW9.out] at lE;refine⟨λ_=>lE,?_⟩;clear eS HW9;refine fG 10 [] rfl ?_;refine lP prN sf Ey Km Kn rfl (.tmp 54) (.tmp 59) rfl rfl (eI.front 3 rfl) (Grow.refl _) (b:=r) trivial (by have:=O6.out;omega) 1 rfl ?_;intro ur' w6 eS;clear eI lE Ej;obtain⟨Ar,Lr,cr,hur⟩:∃A aev c,ur'=Y A aev c:=by obtain⟨U,hU,_⟩:=eS.own.see 0 rfl;obtain⟨A',c',h,_⟩:=iG.sl hU;exact⟨A',_,c',h⟩
    subst hur;have lE:w6.cell? (aeu,0)=some ur:=(eS.front 3 rfl).facts.1.1 0;go_wp2_with fail;refine⟨λ_=>lE,?_⟩;refine fG 11 [12] rfl ?_;go_wp2_with fail;refine⟨λ_=>lE,?_⟩;refine ff rfl lE (λw1 I=>aM) ?_;refine fG 13 [] rfl ?_;go_wp2_with (refine fB eS 3 rfl 155 (.tmp 62) (.tmp 60) rfl 0 rfl (Y Ar Lr cr) rfl (bf rfl) rfl aw rfl ?_;intro w7 fQ;refine stay ?_);refine dN ?_;replace fQ:St V w (.o (uU 24 (Y Ar Lr cr) (rl++[r]))::.o (vh r d (Rp.open_ k nr []))::.o (uU 26 (Y Ad Ld cd) (dl++[d]))::.c aeu 159 #[Y Ar Lr cr,ua,Y Ad Ld cd,ptr g]::.o (uU 105 ua al)::.o (Ne.fm g (nn:Int) [] (λ_=>false))::iF nr rl al dl k) w7:=fQ;clear eS lE;go_wp2_with fail;refine⟨λh=>absurd h am,?_⟩;refine gQ ?_;have fK:=fQ.perm (a3U _ _ _ _ _ _ (iF nr rl al dl k));rw[<-Oh Ix ap qJ] at fK;clear fQ;have hnk:IntKind.i64.wrap ((k:Int)+1)=((k+1:Nat):Int):=by rw[IntKind.wrap_i64];have:=O6.out;omega
    go_wp2_with fail;refine⟨⟨k+1,_,_,_,_,_,_,rfl,by omega,⟨by rw[bd,XL,bw];omega,by omega,by rw[bd,qJ];rfl⟩,fK⟩,?_⟩;show nn-((k:Int)+1).toNat<nn-(k:Int).toNat
    omega
   ·have dkr:decide (k<nr)=false:=aD Ix
    go_wp2_with fail;have eZ:=eU.grow (Grow.refl _).drew;have eN:w4.drew.cell? (aeu,1)=some ua:=(eZ.front 2 rfl).facts.1.1 1;refine dO rfl ?_;refine fV (λO=>O.cell? (aeu,1)=some ua) [13] 14 rfl [0,1,2,3,4,5,6,7] ?_;iterate 8 (refine ff rfl eN (λw1 I=>aM) ?_)
    refine fG 8 [] rfl ?_;have hf:=eZ.front 1 rfl;have hC:=St.call (a:=[.o (kh d [] 0)]) (b:=[.o (uU 26 (Y Ad Ld cd) (dl++[d])),.c aeu 159 #[ur,ua,Y Ad Ld cd,ptr g],.o (uU 24 ur rl),.o (uU 105 ua al),.o (Ne.fm g (nn:Int) [] (λ_=>false))]++iF nr rl al dl k) (a':=λp:xC=>dV p (Ag.new k nr [] 1)) hf (λp=>fJ p _) hf.no (ZU w4.drew (λ_=>False) d 0 k nr 1 [] [] 0 D4 (by simp) (by have:=O6.out;omega) ⟨I,by omega⟩ rfl am aw);go_wp2_with fail;refine hC.mono ?_;rintro e w5 ⟨p,⟨Nt,rfl⟩,eI⟩;replace eI:=eI.cls (EW.framed p.a d (Ag.new k nr [] 1)) λU hM=>⟨p,rfl,Nt,hM⟩;replace eI:St V w (.o (EW p.a d (Ag.new k nr [] 1))::.o (uU 26 (Y Ad Ld cd) (dl++[d]))::.c aeu 159 #[ur,ua,Y Ad Ld cd,ptr g]::.o (uU 24 ur rl)::.o (uU 105 ua al)::.o (Ne.fm g (nn:Int) [] (λ_=>false))::iF nr rl al dl k) w5:=eI;have Ej:w5.cell? (aeu,1)=some ua:=(eI.front 2 rfl).facts.1.1 1;obtain⟨r,Hr⟩:=az (p.a);rw[<-Hr.out] at eI ⊢;clear hC hf eZ eN eU eh Hr Nt;go_wp2_with fail;refine⟨λ_=>Ej,?_⟩;refine fG 9 [] rfl ?_;go_wp2_with fail;have eS:=eI.new' #[r] 105;obtain⟨y9,w9,_,HW9,eS⟩:=eS;have lE:w9.cell? (aeu,1)=some ua:=(eS.front 3 rfl).facts.1.1 1;rw[HW9.out] at lE;refine⟨λ_=>lE,?_⟩;clear eS HW9;refine fG 10 [] rfl ?_;refine lP paN sf Ey Km Kn rfl (.tmp 67) (.tmp 72) rfl rfl (eI.front 4 rfl) (Grow.refl _) (b:=r) trivial (by have:=O6.out;omega) 1 rfl ?_;intro ua' w6 eS;clear eI lE Ej;obtain⟨Ar,Lr,cr,hur⟩:∃A aev c,ua'=Y A aev c:=by obtain⟨U,hU,_⟩:=eS.own.see 0 rfl;obtain⟨A',c',h,_⟩:=iG.sl hU;exact⟨A',_,c',h⟩
    subst hur;have lE:w6.cell? (aeu,1)=some ua:=(eS.front 3 rfl).facts.1.1 1;go_wp2_with fail;refine⟨λ_=>lE,?_⟩;refine fG 11 [12] rfl ?_;go_wp2_with fail;refine⟨λ_=>lE,?_⟩;refine ff rfl lE (λw1 I=>aM) ?_;refine fG 13 [] rfl ?_;go_wp2_with (refine fB eS 3 rfl 156 (.tmp 75) (.tmp 73) rfl 1 rfl (Y Ar Lr cr) rfl (bf rfl) rfl aw rfl ?_;intro w7 fQ;refine stay ?_);refine dN ?_;replace fQ:St V w (.o (uU 105 (Y Ar Lr cr) (al++[r]))::.o (EW r d (Ag.new k nr [] 1))::.o (uU 26 (Y Ad Ld cd) (dl++[d]))::.c aeu 159 #[ur,Y Ar Lr cr,Y Ad Ld cd,ptr g]::.o (uU 24 ur rl)::.o (Ne.fm g (nn:Int) [] (λ_=>false))::iF nr rl al dl k) w7:=fQ;clear eS lE;go_wp2_with fail;refine⟨λh=>absurd h am,?_⟩;refine gQ ?_;have fK:=fQ.perm (a02 _ _ _ _ _ _ (iF nr rl al dl k));rw[<-Oi Ix hal qJ] at fK;clear fQ;have hnk:IntKind.i64.wrap ((k:Int)+1)=((k+1:Nat):Int):=by rw[IntKind.wrap_i64];have:=O6.out;omega
    go_wp2_with fail;refine⟨⟨k+1,_,_,_,_,_,_,rfl,by omega,⟨by omega,by rw[bd,hal,bw];omega,by rw[bd,qJ];rfl⟩,fK⟩,?_⟩;show nn-((k:Int)+1).toNat<nn-(k:Int).toNat
    omega
  ·obtain rfl:k=nn:=by omega
   go_wp2;go_ret;obtain⟨r1,r2⟩:=L.fin;have:=O6.out;exact⟨(aeu,g,(ur,ua,ud),rl,al,dl),⟨rfl,show rl.length=nr by omega,show al.length=na by omega,qJ⟩,r1,r2⟩
def Wl.new(nr na:Nat):Wl:=⟨nr,na,λi=>Rp.open_ i nr [],λi=>Ag.new (nr+i) nr [] 1,[],λ_=>false⟩
theorem uV{w:G}{S S':ei}(L:∀U,S w U->S' w U):∀(l:List ei)(i:Nat),l[i]?=some S->∀{V:aV},dU l w V->dU (l.set i S') w V
 | x::l,0,h,V,⟨V1,V2,a,b,c,d,e⟩=>by
   cases h;exact⟨V1,V2,L _ a,b,c,d,e⟩
 | x::l,i+1,h,V,⟨V1,V2,a,b,c,d,e⟩=>⟨V1,V2,a,uV L l i (by simpa using h) b,c,d,e⟩
theorem M1:∀q:aQ,q.flatMap W4=q.map ptr
 | []=>rfl
 | a::l=>by rw[bN,M1 l];rfl
def Ez{e:dH}{u:E}{q:aQ}{U:aV}(h:uU e u q w U)(hq:q≠[]):∃(g cap:Nat)(cur:aP),u=Y (some (g,0)) q.length cap∧q.length<=cap∧cap<=dL∧(∀i,i<q.length->cur[i]?=some (ptr (q.getD i 0)))∧∀U',uU e u q w U'->Cell g e cur w U':=by
 have BM:0<q.length:=List.length_pos_iff.2 hq;obtain⟨R,D,⟨hl,hr⟩,_,T,_⟩:=h;rcases hr with ⟨_,h0⟩|⟨g,cap,cur,rfl,H,hh,jf,hm,jo,jA⟩
 ·omega
 ·refine⟨g,cap,cur,rfl,jf,hm,λi hi=>?_,?_⟩
  ·rw[cO] at jA
   have e1:(cur.toList.take q.length)[i]?=(q.flatMap W4)[i]?:=by rw[jA]
   rw[List.getElem?_take,aA hi] at e1;rw[<-Array.getElem?_toList,e1];have e2:q.flatMap W4=q.map ptr:=M1 q;rw[e2,List.getElem?_map];simp[List.getD,List.getElem?_eq_getElem hi]
  ·rintro U' ⟨R',D',⟨_,OI⟩,_,h3',_⟩
   rcases OI with ⟨h0,_⟩|⟨g',cap',cur',he,xO,hh',_⟩
   ·cases h0
   ·cases he
    rw[hh] at hh';cases hh';exact⟨(h3' _ xO).1,hh⟩
def Oj(P:nt)(hr:P.r=λi=>rl.getD i 0)(ha:P.a=λi=>al.getD i 0)(hd:P.d=λi=>dl.getD i 0):iF nr rl al dl (nr+na)=pH P (Wl.new nr na)++sA P (Wl.new nr na):=by
 unfold iF pH sA;rw[List.range_add,bM,List.map_map];congr 1
 ·refine cP λi hi=>?_
  have hi:=List.mem_range.1 hi;unfold rH;rw[aA hi,hr,hd];rfl
 ·refine cP λi hi=>?_
  show rH nr rl al dl (nr+i)=_;unfold rH;rw[aB ap,ha,hd,Nat.add_sub_cancel_left];rfl
def a04(w:G)(nr na:Nat)(I:1<=nr)(Z:1<=na)(h8:nr+na<=8):Lw N (λ_=>False) 81 #[J nr,J na] [] (λ(aeu:Nat)e=>e=b5 (ptr aeu)) (λaeu=>[.o (iP aeu (Wl.new nr na))]) w:=by intro V hM hV;refine (a03 w nr na I Z h8 V hM hV).mono ?_;rintro e O ⟨⟨aeu,g,⟨ur,ua,ud⟩,rl,al,dl⟩,⟨rfl,l1,l2,l3⟩,hM,hj⟩;dsimp only at l1 l2 l3 hM;refine⟨aeu,rfl,⟨ju V w O,λ_=>False,?_,trivial,λ_ h=>h,λ_ h=>h.elim,λ_ _ h=>h⟩,hj⟩;obtain⟨U1,hU1,_⟩:=dU.mem (S:=uU 24 ur rl) hM (bV _ (cy ..));obtain⟨U2,hU2,_⟩:=dU.mem (S:=uU 105 ua al) hM (bV _ (bV _ (cy ..)));obtain⟨U3,hU3,_⟩:=dU.mem (S:=uU 26 ud dl) hM (bV _ (bV _ (bV _ (cy ..))));obtain⟨rb,rc,ru,rfl,r1,r2,r3,r4⟩:=Ez hU1 (λh=>by rw[h] at l1;simp at l1;omega);obtain⟨ab,ac,au,rfl,a1,a2,a3,a4⟩:=Ez hU2 (λh=>by rw[h] at l2;simp at l2;omega);obtain⟨db,dc,du,rfl,d1,d2,d3,d4⟩:=Ez hU3 (λh=>by rw[h] at l3;simp at l3;omega);have hM1:=uV r4 _ 1 rfl hM;have hM2:=uV a4 _ 2 rfl hM1;have hM3:=uV d4 _ 3 rfl hM2;rw[l1] at r1 r3;rw[l2] at a1 a3;rw[l3] at d1 d3;refine⟨⟨aeu,rb,ab,db,g,rc,ac,dc,ru,au,du,λi=>rl.getD i 0,λi=>al.getD i 0,λi=>dl.getD i 0⟩,rfl,⟨⟨I,h8⟩,r3,a3,d3,⟨r1,a1,d1⟩,⟨r2,a2,d2⟩⟩,?_⟩;have hp:=Oj (nr:=nr) (na:=na) (rl:=rl) (al:=al) (dl:=dl) ⟨aeu,rb,ab,db,g,rc,ac,dc,ru,au,du,λi=>rl.getD i 0,λi=>al.getD i 0,λi=>dl.getD i 0⟩ rfl rfl rfl;unfold dQ;rw[<-hp];unfold wlC;show dU (qv (.c aeu 159 #[Y (some (rb,0)) nr rc,Y (some (ab,0)) na ac,Y (some (db,0)) (nr+na) dc,ptr g]::_)) _ _;rw[l1,l2,l3] at hM3;exact hM3
def Bw(q:aer.Sm):Prop:=∀s,aer.gt q s<=aer.oU
theorem M3:∀(l:List Dl)(q mo:aer.Sm),aer.iz q mo l=true->(∀s,aer.gt mo s+aer.gt q s<=aer.oU)->∀s,aer.gt (aer.add mo l) s+aer.gt q s<=aer.oU
 | [],_,_,_,h,s=>h s
 | d::l,q,mo,hr,h,s=>by
   rw[aer.iz,bP,decide_eq_true_eq] at hr;rw[aer.mC];refine M3 l q _ hr.2 (λy=>?_) s;rw[aer.zo];split;·next e=>rw[e];exact hr.1
   ·exact h y
def Bw.add{q:aer.Sm}{l:List Dl}(h:Bw q):Bw (aer.o5 q l):=by
 unfold aer.o5;split
 ·next e=>
  have I:=M3 l q [] (aer.Ly e) (λs=>by rw[show aer.gt ([]:aer.Sm) s=0 from rfl,cL];exact h s);intro s;have Z:=I s;rw[aer.JA] at Z ⊢;rw[show aer.gt ([]:aer.Sm) s=0 from rfl] at Z;omega
 ·exact h
def Bw.step{x:jy}(h:Bw x.q)(e:En):Bw (ey x e).2.2.q:=by
 unfold ey;repeat' split
 all_goals first|exact h|exact h.add
def Ol{x:jy}(h:Bw x.q)(e:En):∃c:Nat,(ey x e).1=(c:Int)∧c<=255∧(ey x e).2.1<18446744073709551616:=by
 unfold ey;repeat' split
 ·exact⟨8,rfl,by decide,Nat.lt_succ_of_le (h e.se)⟩
 all_goals first|exact⟨1,rfl,by decide,(show (0:Nat)<18446744073709551616 by decide)⟩|exact⟨2,rfl,by decide,(show (0:Nat)<18446744073709551616 by decide)⟩|exact⟨3,rfl,by decide,(show (0:Nat)<18446744073709551616 by decide)⟩|exact⟨4,rfl,by decide,(show (0:Nat)<18446744073709551616 by decide)⟩|exact⟨5,rfl,by decide,(show (0:Nat)<18446744073709551616 by decide)⟩
def jT(l:Sends):Prop:=∀q∈l,q.2.Gd
def jT.nil:jT []:=λ_ h=>by simp at h
def jT.app{a b:Sends}(ha:jT a)(hb:jT b):jT (a++b):=λq hq=>(List.mem_append.1 hq).elim (ha q) (hb q)
def jT.one{f:Int}(h:m.Gd):jT [(f,m)]:=λq hq=>by rw[List.mem_singleton.1 hq];exact h
def jT.all(h:m.Gd):jT (uM node n m):=λq hq=>by obtain⟨j,_,rfl⟩:=List.mem_map.1 hq;exact h
def M4(h:e.Ok):∃t:Nat,e.tg=(t:Int)∧t<=9223372036854775807:=⟨e.tg.toNat,by have:=h.1.2.1;omega,by have:=h.1.2;omega⟩
theorem Sk(leads:Bool)(own:Nat):∀(l:List En)(k:Nat)(x:jy)(out:List Sd),(∀e∈l,e.Ok)->Bw x.q->jT (out.map Sd.fn)->Bw (ET leads own l k x out).1.q∧jT ((ET leads own l k x out).2.map Sd.fn)
 | [],_,_,_,_,h,ho=>⟨h,ho⟩
 | e::l,k,x,out,he,h,ho=>by
   refine Sk leads own l (k+1) (ey x e).2.2 _ (λe' h'=>he e' (by simp[h'])) (h.step e) ?_;split
   ·rw[bM]
    refine ho.app ?_;obtain⟨c,hc,mL,hn⟩:=Ol h e;obtain⟨t,ht,Mz⟩:=M4 (he e (by simp));rw[hc,ht];exact jT.one (.ans t c _ Mz mL hn)
   ·exact ho
structure Rp.Wf(x:Rp):Prop where
 ok:x.Ok
 sm:Bw x.m.q
namespace Rp
variable{x:Rp}
theorem Wf.apply(h:x.Wf)(aet:Nat):(x.apply aet).1.Wf∧jT (x.apply aet).2:=by have I:=Sk x.leads x.own ((x.s.c.es.take aet).drop x.commit) x.commit x.m [] (λe he=>h.ok.s.c.es e (bY (da he))) h.sm jT.nil;exact⟨⟨h.ok.apply aet,I.1⟩,I.2⟩
theorem Wf.accepts(h:x.Wf):jT x.accepts:=jT.all (.acc _ _ _ h.ok.s.c.t h.ok.commit h.ok.s.c.es h.ok.s.c.len)
theorem Wf.vote(h:x.Wf){v:Vt}(hv:v.Ok)(hn:v.nodes=x.nodes):Rp.Wf { x with v:=some v }:=⟨h.ok.vote hv hn,h.sm⟩
theorem Wf.counted(h:x.Wf){v:Vt}(hv:x.v=some v)(i n:Nat):(x.counted v i n).1.Wf∧jT (x.counted v i n).2:=by obtain⟨I,Z⟩:=h.ok.v v hv;exact (h.vote (I.told i n) Z).apply _
theorem Wf.told(h:x.Wf){v:Vt}(hv:x.v=some v):(x.told v).1.Wf∧jT (x.told v).2:=by obtain⟨I,Z⟩:=h.counted hv x.node x.s.c.es.length;exact⟨I,Z.app I.accepts⟩
theorem Wf.word(h:x.Wf){s:Vs}(hs:s.Ok)(l:Bool)(o:Nat)(hl:l=true->∃v,x.v=some v):Rp.Wf { x with s:=s,leads:=l,own:=o }:=⟨h.ok.word hs l o hl,h.sm⟩
theorem Wf.down(h:x.Wf):x.down.Wf:=⟨h.ok.down,h.sm⟩
theorem Wf.won(h:x.Wf){v:Vt}(hv:x.v=some v):(x.won v).1.Wf∧jT (x.won v).2:=by
 obtain⟨I,Z⟩:=h.ok.v v hv;unfold Rp.won;split;·exact⟨h.down,jT.nil⟩
 ·next s e=>exact (h.word (Vs.kZ h.ok.s I.t I.best e) true s.c.es.length (λ_=>⟨v,hv⟩)).told (v:=v) hv
def m6(h:s.Ok)(ht:t<=9223372036854775807)(he:s.promise t=some s'):s'.Ok∧s'.c.t=t:=by
 unfold Vs.promise at he;split at he
 ·have:=Vs.Ok.keep (y:=⟨t,s.c.h,s.c.es⟩) h ⟨ht,h.c.h,h.c.es,h.c.len⟩ he
  exact⟨this.1,by rw[this.2]⟩
 ·cases he
def Ah(t node nodes:Nat)(hn:1<=nodes):mE t node nodes<=t+nodes:=by unfold mE;have:=Nat.mod_lt (node+nodes-(t+1) % nodes) (show 0<nodes by omega);omega
theorem Wf.lead(h:x.Wf):(x.lead).1.Wf∧jT (x.lead).2:=by
 have qI:=h.ok.node;unfold Rp.lead;split;·exact⟨h,jT.nil⟩
 ·next ht=>
  split;·exact⟨h,jT.nil⟩
  ·next s e=>
   have htl:=Ah x.s.c.t x.node x.nodes ap;obtain⟨hs,kc⟩:=m6 h.ok.s (t:=mE x.s.c.t x.node x.nodes) ap e;have hv:=(Vt.Ok.new hs.c.t (nodes:=x.nodes) ⟨by omega,by omega⟩).promise (i:=x.node) (had:=s.c.h) (l:=s.c.es) ap hs.c.h hs.c.es hs.c.len;have Bg:((Vt.new s.c.t x.nodes).promise x.node s.c.h s.c.es).2.nodes=x.nodes:=by
    unfold Vt.promise;repeat' split
    all_goals rfl
   have me:Rp.Wf { x with s:=s,leads:=false,v:=some ((Vt.new s.c.t x.nodes).promise x.node s.c.h s.c.es).2 }:=⟨⟨hs,h.ok.m,λv' h'=>by cases h';exact⟨hv,Bg⟩,h.ok.node,h.ok.commit,λh'=>by cases h'⟩,h.sm⟩;dsimp only;split;·exact me.won rfl
   ·exact⟨me,jT.all (.xB _ hs.c.t)⟩
def Xz(h:e.Ok){f:Int}(hf:0<=f∧f<8):En.Ok { e with fr:=f }:=⟨⟨hf,h.1.2⟩,h.2⟩
theorem Wf.ask(h:x.Wf)(f:Int){e:En}(he:e.Ok):(x.ask f e).1.Wf∧jT (x.ask f e).2:=by
 obtain⟨t,ht,Mz⟩:=M4 he;have h7:jT [(f,fD e.tg 7 0)]:=by rw[ht];exact jT.one (.ans t 7 0 Mz am am)
 have h6:jT [(f,fD e.tg 6 0)]:=by rw[ht];exact jT.one (.ans t 6 0 Mz am am)
 unfold Rp.ask;split
 ·next v hl hv=>
  split;·exact⟨h,h7⟩
  ·next hf=>
   split;·exact⟨h,h7⟩
   ·next s e1=>
    have hs:s.Ok:=Vs.kZ h.ok.s (h.ok.v v hv).1.t (λz hz=>by
     rcases List.mem_append.1 hz with hz|hz
     ·exact h.ok.s.c.es z hz
     ·rw[List.mem_singleton.1 hz];exact Xz he ap) e1
    have Z:Rp.Wf { x with s:=s }:=h.word hs x.leads x.own h.ok.lv;exact Z.told hv
 ·exact⟨h,h6⟩
theorem Wf.prepare(h:x.Wf)(f:Int){t:Nat}(ht:t<=9223372036854775807):(x.prepare f t).1.Wf∧jT (x.prepare f t).2:=by
 unfold Rp.prepare;split;·exact⟨h,jT.nil⟩
 ·next s e=>
  obtain⟨hs,_⟩:=m6 h.ok.s ht e;have Z:Rp.Wf { x with s:=s }:=h.word hs x.leads x.own h.ok.lv;exact⟨Z.down,jT.one (.prom _ _ _ ht hs.c.h hs.c.es hs.c.len)⟩
theorem Wf.accept(h:x.Wf)(f:Int){t cm:Nat}{l:List En}(ht:t<=9223372036854775807)(hl:∀e∈l,e.Ok):(x.accept f t l cm).1.Wf∧jT (x.accept f t l cm).2:=by
 unfold Rp.accept;split;·exact⟨h,jT.nil⟩
 ·next s e=>
  have hs:=Vs.kZ h.ok.s ht hl e;have Z:Rp.Wf { x with s:=s }:=h.word hs x.leads x.own h.ok.lv;dsimp only;refine⟨?_,jT.one (.OS _ _ ht hs.c.len)⟩;split;·exact (Z.down.apply _).1
  ·exact (Z.apply _).1
theorem Wf.jH(h:x.Wf){F t had:Nat}{l:List En}(hF:F<8)(hh:had<=9223372036854775807)(hl:∀e∈l,e.Ok)(hn:l.length<=128):(jH x F t had l).1.Wf∧jT (jH x F t had l).2:=by
 unfold Go.Proofs.YtpeepcmdehhbgaaGreatDoor.jH;split;·exact⟨h,jT.nil⟩
 ·next v hv=>
  split
  ·obtain⟨I,Z⟩:=h.ok.v v hv
   have Bg:(v.promise F had l).2.nodes=x.nodes:=by
    rw[<-Z];unfold Vt.promise;repeat' split
    all_goals rfl
   have T:=h.vote (I.promise (i:=F) (had:=had) (l:=l) hF hh hl hn) Bg;split;·exact T.won rfl
   ·exact⟨T,jT.nil⟩
  ·exact⟨h,jT.nil⟩
theorem Wf.nV(h:x.Wf)(F t n:Nat):(nV x F t n).1.Wf∧jT (nV x F t n).2:=by
 unfold Go.Proofs.YtpeepcmdehhbgaaGreatDoor.nV;split
 ·split
  ·next v hv=>
   split;·exact h.counted hv F n
   ·exact⟨h,jT.nil⟩
  ·exact⟨h,jT.nil⟩
 ·exact⟨h,jT.nil⟩
theorem Wf.recv(h:x.Wf)(f:Int){m:Ms}(hm:m.Gd):(x.recv f m).1.Wf∧jT (x.recv f m).2:=by
 have qI:=h.ok.node;unfold Rp.recv;cases hm with
 | ask e he=>exact h.ask f he
 | ans tg c n _ _ _=>
   by_cases hf:x.hears f
   ·rw[aB (by show ¬ (2:Int)=1;decide),aB (λh=>h hf),aB (by show ¬ (2:Int)=3;decide),aB (by show ¬ (2:Int)=4;decide),aB (by show ¬ (2:Int)=5;decide),aB (by show ¬ (2:Int)=6;decide)]
    exact⟨h,jT.nil⟩
   ·rw[aB (by show ¬ (2:Int)=1;decide),aA hf]
    exact⟨h,jT.nil⟩
 | xB t ht=>
   by_cases hf:x.hears f
   ·rw[aB (by show ¬ (3:Int)=1;decide),aB (λh=>h hf),aA (show (kD t).k=3 from rfl)]
    exact h.prepare f (t:=((t:Int)).toNat) ht
   ·rw[aB (by show ¬ (3:Int)=1;decide),aA hf]
    exact⟨h,jT.nil⟩
 | prom t hd l ht hh hl hn=>
   by_cases hf:x.hears f
   ·rw[aB (by show ¬ (4:Int)=1;decide),aB (λh=>h hf),aB (by show ¬ (4:Int)=3;decide),aA (show (iB t hd l).k=4 from rfl)]
    obtain⟨hf1,WY,_⟩:=hf;exact h.jH ap hh hl hn
   ·rw[aB (by show ¬ (4:Int)=1;decide),aA hf]
    exact⟨h,jT.nil⟩
 | acc t l c ht hc hl hn=>
   by_cases hf:x.hears f
   ·rw[aB (by show ¬ (5:Int)=1;decide),aB (λh=>h hf),aB (by show ¬ (5:Int)=3;decide),aB (by show ¬ (5:Int)=4;decide),aA (show (lB t l c).k=5 from rfl)]
    exact h.accept f (t:=((t:Int)).toNat) ht hl
   ·rw[aB (by show ¬ (5:Int)=1;decide),aA hf]
    exact⟨h,jT.nil⟩
 | OS t n ht hn=>
   by_cases hf:x.hears f
   ·rw[aB (by show ¬ (6:Int)=1;decide),aB (λh=>h hf),aB (by show ¬ (6:Int)=3;decide),aB (by show ¬ (6:Int)=4;decide),aB (by show ¬ (6:Int)=5;decide),aA (show (mS t n).k=6 from rfl)]
    exact h.nV _ _ _
   ·rw[aB (by show ¬ (6:Int)=1;decide),aA hf]
    exact⟨h,jT.nil⟩
theorem Wf.ticks(h:x.Wf):jT x.ticks:=by
 unfold Rp.ticks;split;·exact h.accepts
 ·exact jT.nil
theorem Wf.open_{node nodes:Nat}{ws:List Wo}(hn:node<nodes∧nodes<=8)(hs:(Vs.mk ws).Ok):(Rp.open_ node nodes ws).Wf:=⟨⟨hs,CL.new,λ_ h=>(by cases h),hn,bo _,λh=>by cases h⟩,λ_=>bo _⟩
end Rp
end Go.Proofs.YtpeepcmdehhbgaaGreatDoor
section
namespace Go.Proofs.YtpeepcmdehhbgaaGreatDoor
open Go.RowKit Go.Hop V
namespace Rp
variable{x:Rp}
def Wf.GV(h:x.Wf){v:Vt}(hv:x.v=some v):(x.told v).2.length<=136:=by unfold Rp.told;rw[bd];have I:=oq x h.ok v x.node x.s.c.es.length;have Z:=ot _ (h.counted hv x.node x.s.c.es.length).1.ok;omega
def W5(node:Nat)(m:Ms):∀n,(uM node n m).length<=n:=λn=>by unfold uM;rw[bj];refine bA (df _ _) ?_;rw[di];exact bh _
def Wf.M5(h:x.Wf){v:Vt}(hv:x.v=some v):(x.won v).2.length<=136:=by
 obtain⟨I,Z⟩:=h.ok.v v hv;unfold Rp.won;split;·exact bo _
 ·next s e=>exact (h.word (Vs.kZ h.ok.s I.t I.best e) true s.c.es.length (λ_=>⟨v,hv⟩)).GV (v:=v) hv
def Wf.Sl(h:x.Wf):(x.lead).2.length<=136:=by
 have qI:=h.ok.node;unfold Rp.lead;split;·exact bo _
 ·next ht=>
  split;·exact bo _
  ·next s e=>
   have htl:=Ah x.s.c.t x.node x.nodes ap;obtain⟨hs,kc⟩:=m6 h.ok.s (t:=mE x.s.c.t x.node x.nodes) ap e;have hv:=(Vt.Ok.new hs.c.t (nodes:=x.nodes) ⟨by omega,by omega⟩).promise (i:=x.node) (had:=s.c.h) (l:=s.c.es) ap hs.c.h hs.c.es hs.c.len;have Bg:((Vt.new s.c.t x.nodes).promise x.node s.c.h s.c.es).2.nodes=x.nodes:=by
    unfold Vt.promise;repeat' split
    all_goals rfl
   have me:Rp.Wf { x with s:=s,leads:=false,v:=some ((Vt.new s.c.t x.nodes).promise x.node s.c.h s.c.es).2 }:=⟨⟨hs,h.ok.m,λv' h'=>by cases h';exact⟨hv,Bg⟩,h.ok.node,h.ok.commit,λh'=>by cases h'⟩,h.sm⟩;dsimp only;split;·exact me.M5 rfl
   ·have:=W5 x.node (kD s.c.t) x.nodes
    dsimp only;omega
def Wf.W6(h:x.Wf)(f:Int)(he:e.Ok):(x.ask f e).2.length<=136:=by
 unfold Rp.ask;split
 ·next v hl hv=>
  split;·exact bf rfl
  ·next hf=>
   split;·exact bf rfl
   ·next s e1=>
    have hs:s.Ok:=Vs.kZ h.ok.s (h.ok.v v hv).1.t (λz hz=>by
     rcases List.mem_append.1 hz with hz|hz
     ·exact h.ok.s.c.es z hz
     ·rw[List.mem_singleton.1 hz];exact Xz he ap) e1
    have Z:Rp.Wf { x with s:=s }:=h.word hs x.leads x.own h.ok.lv;exact Z.GV hv
 ·exact bf rfl
def GX(f:Int)(t:Nat):(x.prepare f t).2.length<=136:=by
 unfold Rp.prepare;split;·exact bo _
 ·exact bf rfl
def Kp(f:Int)(t cm:Nat)(l:List En):(x.accept f t l cm).2.length<=136:=by
 unfold Rp.accept;split;·exact bo _
 ·exact bf rfl
def Wf.Om(h:x.Wf){F had:Nat}{l:List En}(hF:F<8)(hh:had<=9223372036854775807)(hl:∀e∈l,e.Ok)(hn:l.length<=128):(Go.Proofs.YtpeepcmdehhbgaaGreatDoor.jH x F t had l).2.length<=136:=by
 unfold Go.Proofs.YtpeepcmdehhbgaaGreatDoor.jH;split;·exact bo _
 ·next v hv=>
  split
  ·obtain⟨I,Z⟩:=h.ok.v v hv
   have Bg:(v.promise F had l).2.nodes=x.nodes:=by
    rw[<-Z];unfold Vt.promise;repeat' split
    all_goals rfl
   have T:=h.vote (I.promise (i:=F) (had:=had) (l:=l) hF hh hl hn) Bg;split;·exact T.M5 rfl
   ·exact bo _
  ·exact bo _
def Wf.Sn(h:x.Wf)(F t n:Nat):(Go.Proofs.YtpeepcmdehhbgaaGreatDoor.nV x F t n).2.length<=136:=by
 unfold Go.Proofs.YtpeepcmdehhbgaaGreatDoor.nV;split
 ·split
  ·next v hv=>
   split;·exact bA (oq x h.ok v F n) am
   ·exact bo _
  ·exact bo _
 ·exact bo _
theorem Wf.Sp(h:x.Wf)(f:Int)(hm:m.Gd):(x.recv f m).2.length<=136:=by
 have qI:=h.ok.node;unfold Rp.recv;cases hm with
 | ask e he=>exact h.W6 f he
 | ans tg c n _ _ _=>
   by_cases hf:x.hears f
   ·rw[aB (by show ¬ (2:Int)=1;decide),aB (λh=>h hf),aB (by show ¬ (2:Int)=3;decide),aB (by show ¬ (2:Int)=4;decide),aB (by show ¬ (2:Int)=5;decide),aB (by show ¬ (2:Int)=6;decide)]
    exact bo _
   ·rw[aB (by show ¬ (2:Int)=1;decide),aA hf]
    exact bo _
 | xB t ht=>
   by_cases hf:x.hears f
   ·rw[aB (by show ¬ (3:Int)=1;decide),aB (λh=>h hf),aA (show (kD t).k=3 from rfl)]
    exact GX _ _
   ·rw[aB (by show ¬ (3:Int)=1;decide),aA hf]
    exact bo _
 | prom t hd l ht hh hl hn=>
   by_cases hf:x.hears f
   ·rw[aB (by show ¬ (4:Int)=1;decide),aB (λh=>h hf),aB (by show ¬ (4:Int)=3;decide),aA (show (iB t hd l).k=4 from rfl)]
    obtain⟨hf1,WY,_⟩:=hf;exact h.Om (F:=f.toNat) ap hh hl hn
   ·rw[aB (by show ¬ (4:Int)=1;decide),aA hf]
    exact bo _
 | acc t l c ht hc hl hn=>
   by_cases hf:x.hears f
   ·rw[aB (by show ¬ (5:Int)=1;decide),aB (λh=>h hf),aB (by show ¬ (5:Int)=3;decide),aB (by show ¬ (5:Int)=4;decide),aA (show (lB t l c).k=5 from rfl)]
    exact Kp _ _ _ _
   ·rw[aB (by show ¬ (5:Int)=1;decide),aA hf]
    exact bo _
 | OS t n ht hn=>
   by_cases hf:x.hears f
   ·rw[aB (by show ¬ (6:Int)=1;decide),aB (λh=>h hf),aB (by show ¬ (6:Int)=3;decide),aB (by show ¬ (6:Int)=4;decide),aB (by show ¬ (6:Int)=5;decide),aA (show (mS t n).k=6 from rfl)]
    exact h.Sn _ _ _
   ·rw[aB (by show ¬ (6:Int)=1;decide),aA hf]
    exact bo _
def Wf.On(h:x.Wf):x.ticks.length<=8:=by
 unfold Rp.ticks;split;·exact ot x h.ok
 ·exact bo _
end Rp
end Go.Proofs.YtpeepcmdehhbgaaGreatDoor
end
namespace Go.Proofs.YtpeepcmdehhbgaaGreatDoor
open RowKit Hop V
def GY(b:aes.Ab):Prop:=(1<=b.1∧b.1<=9223372036854775807)∧(1<=b.2.length∧b.2.length<=8)∧∀d∈b.2,FT d
structure Bk.Wf(b:Bk):Prop where
 bt:∀k,∀x∈(b.qu k).l,GY x
 ep:1<=b.ep∧b.ep<=9223372036854775807
namespace Ag
def a05{x:Ag}(hn:x.node<8)(he:x.b.Wf)(K:k<4){b:aes.Ab}(hb:GY b)(ht:x.tag<9223372036854775807):(gH (x.uR (x.jm k b.1) b.2)).Gd:=by
 obtain⟨I,Z,T⟩:=hb;refine .ask _ ⟨⟨⟨?_,?_⟩,?_,?_⟩,.inl ⟨rfl,rfl,⟨?_,?_⟩,⟨?_,?_⟩,I,he.ep,Z,T⟩⟩;·show (0:Int)<=(x.node:Int);omega
 ·show (x.node:Int)<8;omega
 ·show (0:Int)<=((x.tag+1:Nat):Int);omega
 ·show ((x.tag+1:Nat):Int)<=9223372036854775807;omega
 ·show (0:Int)<=(x.node:Int);omega
 ·show (x.node:Int)<8;omega
 ·show (0:Int)<=(k:Int);omega
 ·show (k:Int)<4;omega
structure Kept(x y:Ag)(n:Nat):Prop where
 b:y.b=x.b
 node:y.node=x.node
 tag:y.tag<=x.tag+n
def Kept.refl(x:Ag):Kept x x 0:=⟨rfl,rfl,bh _⟩
theorem Kept.trans{x y z:Ag}{n m:Nat}(h:Kept x y n)(h':Kept y z m):Kept x z (n+m):=⟨h'.b.trans h.b,h'.node.trans h.node,by have:=h.tag;have:=h'.tag;omega⟩
def Kept.more{x y:Ag}{m:Nat}(h:Kept x y n)(hm:n<=m):Kept x y m:=⟨h.b,h.node,by have:=h.tag;omega⟩
theorem uW{k:Nat}(K:k<4):∀(l:List aes.Ab)(x:Ag)(out:Sends),(∀b∈l,GY b)->x.node<8->x.b.Wf->x.tag+l.length<=9223372036854775807->jT out->jT (fu k l x out).2∧Kept x (fu k l x out).1 l.length∧(fu k l x out).2.length<=out.length+l.length
 | [],x,out,_,_,_,_,h=>⟨h,Kept.refl x,bh _⟩
 | b::l,x,out,hb,hn,he,ht,h=>by
   rw[bC] at ht;unfold fu;split
   ·have jb:Kept x (x.send (x.jm k b.1) (x.tries (x.jm k b.1))) 1:=⟨rfl,rfl,bh _⟩
    obtain⟨I,Z,T⟩:=uW K l (x.send (x.jm k b.1) (x.tries (x.jm k b.1))) _ (λc hc=>hb c (by simp[hc])) hn he (by show x.tag+1+l.length<=_;omega) (h.app (jT.one (f:=((x.to (x.tries (x.jm k b.1)).1:Nat):Int)) (a05 hn he K (hb b (by simp)) ap)));refine⟨I,(jb.trans Z).more (by simp;omega),?_⟩;rw[bd,bw] at T;rw[bC];omega
   ·obtain⟨I,Z,T⟩:=uW K l x out (λc hc=>hb c (by simp[hc])) hn he ap h
    refine⟨I,Z.more (by simp),?_⟩;rw[bC];omega
theorem Ai:∀(ks:aQ)(x:Ag)(out:Sends),(∀k∈ks,k<4)->x.node<8->x.b.Wf->x.tag+4*ks.length<=9223372036854775807->jT out->jT (gu ks x out).2∧Kept x (gu ks x out).1 (4*ks.length)∧(gu ks x out).2.length<=out.length+4*ks.length
 | [],x,out,_,_,_,_,h=>⟨h,Kept.refl x,bh _⟩
 | k::ks,x,out,K,hn,he,ht,h=>by
   rw[bC] at ht;have hl4:((x.b.qu k).l.take 4).length<=4:=by rw[bn];omega
   obtain⟨I,Z,T⟩:=uW (K k (by simp)) ((x.b.qu k).l.take 4) x out (λb hb=>he.bt k b (bY hb)) hn he ap h;have Mz:=Z.tag;obtain⟨g1,g2,g3⟩:=Ai ks _ _ (λc hc=>K c (by simp[hc])) (by rw[Z.node];exact hn) (by rw[Z.b];exact he) ap I;unfold gu;refine⟨g1,(Z.trans g2).more (by rw[bC];omega),?_⟩;rw[bC];omega
theorem Aj:∀(n:Nat)(x:Ag)(out:Sends),x.node<8->x.b.Wf->x.tag+16*n<=9223372036854775807->jT out->jT (gv n x out).2∧Kept x (gv n x out).1 (16*n)∧(gv n x out).2.length<=out.length+16*n
 | 0,x,out,_,_,_,h=>⟨h,Kept.refl x,bh _⟩
 | n+1,x,out,hn,he,ht,h=>by
   obtain⟨I,Z,T⟩:=Ai (bF 4) { x with now:=x.now+1 } out (λk K=>List.mem_range.1 K) hn he (by show x.tag+4*4<=_;omega) h;have K:Kept x (x.mG out).1 16:=⟨Z.b,Z.node,Z.tag⟩;have fp:(x.mG out).2.length<=out.length+16:=T;have Mz:=K.tag;obtain⟨g1,g2,g3⟩:=Aj n (x.mG out).1 (x.mG out).2 (by rw[K.node];exact hn) (by rw[K.b];exact he) ap I;unfold gv;exact⟨g1,(K.trans g2).more ap,by omega⟩
end Ag
def W7(h:jG d):FT d:=by obtain⟨I,Z,T⟩:=h;unfold iq at I;rw[bP,decide_eq_true_eq,decide_eq_true_eq] at I;exact⟨I.2,by omega,I.1,Z⟩
def Oo{l:List aes.Ab}{last s:Int}{m:Nat}(h:aes.vE l last s m=0):1<=s∧1<=m∧m<=8:=by
 unfold aes.vE at h;repeat' split at h
 all_goals first|omega|(exact absurd h am)
def Bk.tT(b:Bk):Prop:=∀k,∀x∈(b.qu k).l,GY x
theorem Bk.tT.set{b b':Bk}(h:b.tT){k:Nat}{q:Qu}(e:b'.q=b.q.set k q)(hq:∀x∈q.l,GY x):b'.tT:=λj=>by unfold Bk.qu;rw[e];exact Ep (P:=λq=>∀x∈q.l,GY x) hq (h j)
theorem Bk.tT.add{b:Bk}(h:b.tT)(k:Nat){sq:Int}{ds:List Dl}(hs:sq<=9223372036854775807)(hd:∀d∈ds,jG d):(b.add k sq ds).tT:=by
 unfold Bk.add;split
 ·next e=>
  obtain⟨I,Z,T⟩:=Oo e;refine h.set (k:=k) rfl λx X=>?_;rcases List.mem_append.1 X with X|X
  ·exact h k x X
  ·rw[List.mem_singleton.1 X]
   exact⟨⟨I,hs⟩,⟨Z,T⟩,λd KM=>W7 (hd d KM)⟩
 ·exact h
theorem Bk.tT.done{b:Bk}(h:b.tT)(k:Nat)(sq:Int):(b.done k sq).tT:=h.set (k:=k) rfl λx X=>h k x (List.mem_of_mem_eraseP X)
theorem Bk.tT.take{b:Bk}(h:b.tT){r:Rc}(hr:r.Ok):(b.take r).tT:=by
 cases r with
 | ep n=>exact h
 | eW d=>
   unfold Bk.take;dsimp only;split<;>exact h
 | qF k sq ds=>
   obtain⟨_,Z,_,h4⟩:=hr;exact h.add k ap h4
 | sh n=>exact h
 | dn k sq=>exact h.done k _
theorem Bk.tT.new:Bk.new.tT:=λk x X=>by
 have:(Bk.new.qu k).l=[]:=by
  unfold Bk.qu Bk.new;match k with
  | 0=>rfl
  | 1=>rfl
  | 2=>rfl
  | 3=>rfl
  | k+4=>simp[Qu.new]
 rw[this] at X;simp at X
theorem Sq:∀(rs:List Rc)(b:Bk),b.tT->(∀r∈rs,r.Ok)->(rs.foldl Bk.take b).tT
 | [],_,h,_=>h
 | r::rs,b,h,hr=>Sq rs (b.take r) (h.take (hr r (by simp))) λx X=>hr x (by simp[X])
def Bk.tT.of{rs:List Rc}(hr:∀r∈rs,r.Ok):(uS rs).tT:=Sq rs _ Bk.tT.new hr
structure Ag.Wf(x:Ag):Prop where
 ok:x.Ok
 bt:x.b.tT
 ep:1<=x.b.ep∧x.b.ep<=9223372036854775807
namespace Ag
variable{x:Ag}
def Wf.bk(h:x.Wf):x.b.Wf:=⟨h.bt,h.ep⟩
structure tT(x y:Ag):Prop where
 bt:x.b.tT->y.b.tT
 ep:y.b.ep=x.b.ep
def Kq(x:Ag)(d:Dl):tT x (x.gn d).1:=by
 unfold Ag.gn;repeat' split
 all_goals exact⟨id,rfl⟩
def Sr{x y:Ag}{ds:List Dl}(hd:∀d∈ds,jG d)(K:(x.b.qu k).k<=9223372036854775807)(h:x.l7 k ds=some y):tT x y:=by
 unfold Ag.l7 at h;split at h;·cases h
 ·next hn=>
  cases h;refine⟨λhb=>hb.add k ap hd,?_⟩;show (x.b.add k _ ds).ep=x.b.ep;unfold Bk.add;split<;>rfl
def W8(x:Ag)(a k s:Nat):tT x (x.fin a k s):=⟨λhb=>hb.done k _,rfl⟩
end Ag
def Kr(h:iq d=true)(hu:d.2<=18446744073709551615):jG d:=by refine⟨h,?_,by omega⟩;unfold iq at h;rw[bP,decide_eq_true_eq] at h;exact jM h.1
namespace Ag
variable{x:Ag}
theorem Wf.gn(h:x.Wf)(d:Dl)(hu:d.2<=18446744073709551615):(x.gn d).1.Wf:=by
 have hb:=Kq x d;refine⟨?_,hb.bt h.bt,by rw[hb.ep];exact h.ep⟩;unfold Ag.gn;split;·exact h.ok
 ·next I=>
  split;·exact h.ok
  ·next Z=>
   have I:jl x.b.eW d=0:=by omega
   have Z:x.iA (.eW d)=0:=by omega
   have hf:(Rc.eW d).Ok:=Kr (yf I).2 hu;have hl:=h.ok.b.take hf;rw[show x.b.take (.eW d)={ x.b with eW:=x.b.eW++[d] } from aA I] at hl;refine⟨h.ok.node,h.ok.f9,h.ok.last,?_,h.ok.sh,h.ok.ni Z,λr hr=>?_,h.ok.qk⟩
   ·show Bk.Lm (x.rs++[Rc.eW d]).length _
    rw[bd,bw];exact hl
   ·rcases List.mem_append.1 hr with hr|hr
    ·exact h.ok.rs r hr
    ·rw[List.mem_singleton.1 hr];exact hf
theorem Wf.sync(h:x.Wf):x.sync.Wf:=⟨⟨h.ok.node,h.ok.f9,h.ok.last,h.ok.b,h.ok.sh,h.ok.bs,h.ok.rs,h.ok.qk⟩,h.bt,h.ep⟩
theorem Wf.next(h:x.Wf)(i:lZ):(x.next i).Wf:=⟨⟨h.ok.node,h.ok.f9,h.ok.last,h.ok.b,h.ok.sh,h.ok.bs,h.ok.rs,h.ok.qk⟩,h.bt,h.ep⟩
theorem Wf.send(h:x.Wf)(i:lZ)(t:Nat×Nat):(x.send i t).Wf:=⟨h.ok.send i t,h.bt,h.ep⟩
theorem Wf.l7(h:x.Wf){k:Nat}(K:k<4){ds:List Dl}(hl:ds.length<=8)(hf:∀d∈ds,jG d){y:Ag}(e:x.l7 k ds=some y):y.Wf:=by have hb:=Sr hf (h.ok.qk k).2 e;exact⟨(h.ok.l7 K hl hf e).1,hb.bt h.bt,by rw[hb.ep];exact h.ep⟩
theorem Wf.kL{k:Nat}(K:k<4):∀(f:Nat){x:Ag}(l:List Dl),x.Wf->(∀d∈l,jG d)->(x.kL k f l).1.Wf
 | 0,_,_,h,_=>h
 | f+1,x,l,h,hl=>by
   unfold Ag.kL;split;·exact h
   ·split
    ·exact h
    ·next y e=>exact Wf.kL K f (l.drop 8) (h.l7 K (by rw[bn];omega) (λd hd=>hl d (bY hd)) e) (λd hd=>hl d (da hd))
theorem Wf.kR(h:x.Wf){k:Nat}(K:k<4):(x.kR k).1.Wf:=Wf.kL K _ _ h (h.ok.shard k).2
theorem Wf.eE:∀(ks:aQ){x:Ag},(∀k∈ks,k<4)->x.Wf->(x.eE ks).1.Wf
 | [],_,_,h=>h
 | k::ks,x,K,h=>by
   unfold Ag.eE;split;·exact Wf.eE ks (λc hc=>K c (by simp[hc])) (h.kR (K k (by simp)))
   ·exact h.kR (K k (by simp))
theorem Wf.cut(h:x.Wf):x.cut.1.Wf:=by
 have I:=Wf.eE (bF x.b.sh) (x:=x) (λk K=>by have:=List.mem_range.1 K;have:=h.ok.sh;omega) h;unfold Ag.cut;split;·exact I
 ·exact I.sync
theorem Wf.fin(h:x.Wf)(a k s:Nat)(K:k<4)(hs:s<=9223372036854775807):(x.fin a k s).Wf:=by
 have hb:=W8 x a k s;refine⟨?_,hb.bt h.bt,by rw[hb.ep];exact h.ep⟩;have hr:(Rc.dn k s).Ok:=⟨K,hs⟩;have hq:∀j,0<=((x.b.done k (s:Int)).qu j).k∧((x.b.done k (s:Int)).qu j).k<=9223372036854775807:=λj=>Ep (P:=λq=>0<=q.k∧q.k<=9223372036854775807) (h.ok.qk k) (h.ok.qk j);by_cases hz:x.iA (.dn k s)=0
 ·have e:x.put (.dn k s)={ x with rs:=x.rs++[.dn k s] }:=aA hz
  unfold Ag.fin;rw[e];refine⟨h.ok.node,h.ok.f9,h.ok.last,?_,h.ok.sh,h.ok.ni hz,λr OI=>?_,hq⟩
  ·show Bk.Lm (x.rs++[Rc.dn k s]).length _
   rw[bd,bw];exact h.ok.b.take hr
  ·rcases List.mem_append.1 OI with OI|OI
   ·exact h.ok.rs r OI
   ·rw[List.mem_singleton.1 OI];exact hr
 ·have e:x.put (.dn k s)=x:=aB hz
  unfold Ag.fin;rw[e];exact⟨h.ok.node,h.ok.f9,h.ok.last,⟨h.ok.b.eW,h.ok.b.fine,h.ok.b.cuts⟩,h.ok.sh,h.ok.bs,h.ok.rs,hq⟩
theorem Wf.last(h:x.Wf){l:Nat}(hl:l<x.f9):Ag.Wf { x with last:=l }:=⟨⟨h.ok.node,h.ok.f9,hl,h.ok.b,h.ok.sh,h.ok.bs,h.ok.rs,h.ok.qk⟩,h.bt,h.ep⟩
def Wf.maps(h:x.Wf)(a:List (Int×lZ))(t:List (lZ×(Nat×Nat))):Ag.Wf { x with ask:=a,tr:=t }:=⟨⟨h.ok.node,h.ok.f9,h.ok.last,h.ok.b,h.ok.sh,h.ok.bs,h.ok.rs,h.ok.qk⟩,h.bt,h.ep⟩
theorem Wf.took(h:x.Wf){f tg code:Nat}(hf:f<x.f9)(hid:x.jO tg=(0,0,0)∨∃a k s:Nat,x.jO tg=((a:Int),(k:Int),(s:Int))∧1<=a∧k<4∧s<=9223372036854775807):(x.took f tg code).Wf:=by
 have I:Ag.Wf { x with ask:=ij x.ask (tg:Int) }:=h.maps _ _;have Z:Ag.Wf (if code=6 then { x with ask:=ij x.ask (tg:Int) } else { x with ask:=ij x.ask (tg:Int),last:=f }):=by
  split;·exact I
  ·exact I.last hf
 have hr:(if code=6 then ({ x with ask:=ij x.ask (tg:Int) }:Ag) else { x with ask:=ij x.ask (tg:Int),last:=f }).f9=x.f9:=by split<;>rfl
 unfold Ag.took;dsimp only;generalize (if code=6 then ({ x with ask:=ij x.ask (tg:Int) }:Ag) else { x with ask:=ij x.ask (tg:Int),last:=f })=y at Z hr;split
 ·split
  ·exact Z.last (by rw[hr];exact Nat.mod_lt _ (by have:=h.ok.f9;omega))
  ·exact Z
 ·next kr=>
  obtain⟨a,k,s,e,_,K,hs⟩:=hid.resolve_left kr;rw[e];split;·exact Z.fin _ _ _ (by show (k:Int).toNat<4;omega) (by show (s:Int).toNat<=_;omega)
  ·split
   ·exact Z.maps _ _
   ·exact Z
end Ag
end Go.Proofs.YtpeepcmdehhbgaaGreatDoor
section
namespace Go.Proofs.YtpeepcmdehhbgaaGreatDoor
open Go.RowKit Go.Hop V
namespace Ag
theorem Wf.fu{k:Nat}:∀(l:List aes.Ab){x:Ag}(out:Sends),x.Wf->(Ag.fu k l x out).1.Wf
 | [],_,_,h=>h
 | b::l,x,out,h=>by
   unfold Ag.fu;split;·exact Wf.fu l _ (h.send _ _)
   ·exact Wf.fu l _ h
theorem Wf.gu:∀(ks:aQ){x:Ag}(out:Sends),x.Wf->(Ag.gu ks x out).1.Wf
 | [],_,_,h=>h
 | k::ks,x,out,h=>by
   unfold Ag.gu;exact Wf.gu ks _ (Wf.fu _ _ h)
theorem Wf.Ka{x:Ag}(h:x.Wf)(n:Nat):Ag.Wf { x with now:=n }:=⟨h.ok.Ka n,h.bt,h.ep⟩
theorem Wf.gv:∀(n:Nat){x:Ag}(out:Sends),x.Wf->(Ag.gv n x out).1.Wf
 | 0,_,_,h=>h
 | n+1,x,out,h=>by
   unfold Ag.gv;exact Wf.gv n _ (Wf.gu _ _ (h.Ka _))
end Ag
structure Bk.Rg(b:Bk):Prop where
 sh:1<=b.sh∧b.sh<=4
 qk:∀k,0<=(b.qu k).k∧(b.qu k).k<=9223372036854775807
 ep:0<=b.ep
theorem Bk.Rg.new:Bk.new.Rg:=⟨⟨by decide,by decide⟩,λk=>by
 have:(Bk.new.qu k).k=0:=by
  unfold Bk.qu Bk.new;match k with
  | 0=>rfl
  | 1=>rfl
  | 2=>rfl
  | 3=>rfl
  | k+4=>simp[Qu.new]
 rw[this];omega,by decide⟩
theorem Bk.Rg.take{b:Bk}(h:b.Rg){r:Rc}(hr:r.Ok):(b.take r).Rg:=by
 cases r with
 | ep n=>exact⟨h.sh,h.qk,by show (0:Int)<=(n:Int);omega⟩
 | eW d=>
   unfold Bk.take;dsimp only;split<;>exact⟨h.sh,h.qk,h.ep⟩
 | qF k sq ds=>
   obtain⟨_,Z,_,_⟩:=hr;refine⟨by show 1<=(b.add k sq ds).sh∧(b.add k sq ds).sh<=4;rw[vZ];exact h.sh,λj=>CX _ _ _ _ ap h.qk j,?_⟩;show 0<=(b.add k sq ds).ep;unfold Bk.add;split<;>exact h.ep
 | sh n=>exact⟨hr,h.qk,h.ep⟩
 | dn k sq=>exact⟨h.sh,λj=>Ep (P:=λq=>0<=q.k∧q.k<=9223372036854775807) (h.qk k) (h.qk j),h.ep⟩
theorem rg_of:∀(rs:List Rc)(b:Bk),b.Rg->(∀r∈rs,r.Ok)->(rs.foldl Bk.take b).Rg
 | [],_,h,_=>h
 | r::rs,b,h,hr=>rg_of rs (b.take r) (h.take (hr r (by simp))) λx X=>hr x (by simp[X])
theorem Ag.Wf.new{node f9 n:Nat}{rs:List Rc}(qI:node<8)(hrp:1<=f9∧f9<=8)(hr:∀r∈rs,r.Ok)(hn:1<=n∧n<=1073741824)(hl:(sx (rs++[.ep n])).length<=1048576):(Ag.new node f9 rs n).Wf:=by
 have I:=rg_of rs _ Bk.Rg.new hr;have Z:=LW rs Bk.new 0 ⟨bo _,λd hd=>(by simp[Bk.new] at hd),bo _⟩ hr;have T:(uS rs).tT:=Bk.tT.of hr;refine⟨⟨qI,hrp,by show 0<f9;omega,⟨Z.eW,Z.fine,?_⟩,I.sh,hl,λr OI=>?_,I.qk⟩,T,⟨by show (1:Int)<=(n:Int);omega,by show (n:Int)<=_;omega⟩⟩
 ·show (uS rs).cuts.length<=(rs++[Rc.ep n]).length
  rw[bd,bw];have:=Z.cuts;unfold uS;omega
 ·rcases List.mem_append.1 OI with OI|OI
  ·exact hr r OI
  ·rw[List.mem_singleton.1 OI];exact hn
end Go.Proofs.YtpeepcmdehhbgaaGreatDoor
end
namespace Go.Proofs.YtpeepcmdehhbgaaGreatDoor
open RowKit Hop V
def Vs.Sm(s:Vs):Prop:=∀y∈s.ws,y.B.length<=65536
theorem Vs.Sm.keep{s s':Vs}{y:Wo}(h:s.Sm)(e:s.keep y=some s'):s'.Sm:=by
 unfold Vs.keep at e;split at e
 ·next hr=>
  cases e;intro z hz;rcases List.mem_append.1 hz with hz|hz
  ·exact h z hz
  ·rw[List.mem_singleton.1 hz];exact (pD.1 hr).1
 ·cases e
theorem Vs.Sm.promise{s s':Vs}{t:Nat}(h:s.Sm)(e:s.promise t=some s'):s'.Sm:=by
 unfold Vs.promise at e;split at e;·exact h.keep e
 ·cases e
theorem Vs.Sm.accept{s s':Vs}{t:Nat}{l:List En}(h:s.Sm)(e:s.accept t l=some s'):s'.Sm:=by
 unfold Vs.accept at e;split at e;·cases e
 ·split at e
  ·cases e;exact h
  ·exact h.keep e
namespace Rp
variable{x:Rp}
def Ss(h:x.s.Sm)(v:Vt):(x.won v).1.s.Sm:=by
 unfold Rp.won;split;·exact h
 ·next s e=>exact h.accept e
def W9(h:x.s.Sm):x.lead.1.s.Sm:=by
 unfold Rp.lead;split;·exact h
 ·split
  ·exact h
  ·next s e=>
   dsimp only;split;·exact Ss (x:={ x with s:=s,leads:=false,v:=some ((Vt.new s.c.t x.nodes).promise x.node s.c.h s.c.es).2 }) (h.promise e) _
   ·exact h.promise e
def a06(h:x.s.Sm)(f:Int)(e:En):(x.ask f e).1.s.Sm:=by
 unfold Rp.ask;split
 ·split
  ·exact h
  ·split
   ·exact h
   ·next s e1=>exact h.accept e1
 ·exact h
def Ks(h:x.s.Sm)(f:Int)(t:Nat):(x.prepare f t).1.s.Sm:=by
 unfold Rp.prepare;split;·exact h
 ·next s e=>exact h.promise e
def Oq(h:x.s.Sm)(f:Int)(t cm:Nat)(l:List En):(x.accept f t l cm).1.s.Sm:=by
 unfold Rp.accept;split;·exact h
 ·next s e=>
  dsimp only;show (if _ then _ else _:Rp).s.Sm;split;·exact h.accept e
  ·exact h.accept e
def Sv(h:x.s.Sm)(F t had:Nat)(l:List En):(jH x F t had l).1.s.Sm:=by
 unfold Go.Proofs.YtpeepcmdehhbgaaGreatDoor.jH;split;·exact h
 ·next v hv=>
  split
  ·split
   ·exact Ss (x:={ x with v:=some (v.promise F had l).2 }) h _
   ·exact h
  ·exact h
def Wa(h:x.s.Sm)(F t n:Nat):(nV x F t n).1.s.Sm:=by
 unfold Go.Proofs.YtpeepcmdehhbgaaGreatDoor.nV;split
 ·split
  ·split<;>exact h
  ·exact h
 ·exact h
def Wb(h:x.s.Sm)(f:Int)(m:Ms):(x.recv f m).1.s.Sm:=by
 unfold Rp.recv;split;·exact a06 h _ _
 ·split
  ·exact h
  ·split
   ·exact Ks h _ _
   ·split
    ·exact Sv h _ _ _ _
    ·split
     ·exact Oq h _ _ _ _
     ·split
      ·exact Wa h _ _ _
      ·exact h
end Rp
namespace Ag
def Sm(x:Ag):Prop:=∀r∈x.rs,r.B.length<=65536
variable{x:Ag}
def Ot{r:Rc}(hr:x.iA r=0):r.B.length<=65536:=(pD.1 (nH hr).2).1
def Sm.more(h:x.Sm){r:Rc}(hr:x.iA r=0):∀z∈x.rs++[r],z.B.length<=65536:=λz hz=>by
 rcases List.mem_append.1 hz with hz|hz
 ·exact h z hz
 ·rw[List.mem_singleton.1 hz];exact Ot hr
theorem Sm.gn(h:x.Sm)(d:Dl):(x.gn d).1.Sm:=by
 unfold Ag.gn;split;·exact h
 ·split
  ·exact h
  ·next Z=>exact h.more (r := .eW d) ap
theorem Sm.l7(h:x.Sm){k:Nat}{ds:List Dl}{y:Ag}(e:x.l7 k ds=some y):y.Sm:=by
 unfold Ag.l7 at e;split at e;·cases e
 ·next hn=>
  cases e;exact h.more (r:=x.qF k ds) ap
theorem Sm.kL{k:Nat}:∀(f:Nat){x:Ag}(l:List Dl),x.Sm->(x.kL k f l).1.Sm
 | 0,_,_,h=>h
 | f+1,x,l,h=>by
   unfold Ag.kL;split;·exact h
   ·split
    ·exact h
    ·next y e=>exact Sm.kL f _ (h.l7 e)
theorem Sm.eE:∀(ks:aQ){x:Ag},x.Sm->(x.eE ks).1.Sm
 | [],_,h=>h
 | k::ks,x,h=>by
   unfold Ag.eE;split;·exact Sm.eE ks (Sm.kL _ _ h)
   ·exact Sm.kL _ _ h
theorem Sm.cut(h:x.Sm):x.cut.1.Sm:=by
 unfold Ag.cut;split;·exact Sm.eE _ h
 ·exact Sm.eE _ h
theorem Sm.fin(h:x.Sm)(a k s:Nat):(x.fin a k s).Sm:=by
 by_cases hz:x.iA (.dn k s)=0
 ·have e:x.put (.dn k s)={ x with rs:=x.rs++[.dn k s] }:=aA hz
  unfold Ag.fin;rw[e];exact h.more (r := .dn k s) hz
 ·have e:x.put (.dn k s)=x:=aB hz
  unfold Ag.fin;rw[e];exact h
theorem Sm.took(h:x.Sm)(f tg code:Nat):(x.took f tg code).Sm:=by
 have Z:(if code=6 then ({ x with ask:=ij x.ask (tg:Int) }:Ag) else { x with ask:=ij x.ask (tg:Int),last:=f }).Sm:=by split<;>exact h
 unfold Ag.took;dsimp only;generalize (if code=6 then ({ x with ask:=ij x.ask (tg:Int) }:Ag) else { x with ask:=ij x.ask (tg:Int),last:=f })=y at Z;split;·split<;>exact Z
 ·split
  ·exact Z.fin _ _ _
  ·split<;>exact Z
theorem Sm.fu{k:Nat}:∀(l:List aes.Ab){x:Ag}(out:Sends),x.Sm->(Ag.fu k l x out).1.Sm
 | [],_,_,h=>h
 | b::l,x,out,h=>by
   unfold Ag.fu;split;·exact Sm.fu l (x:=x.send _ _) _ h
   ·exact Sm.fu l _ h
theorem Sm.gu:∀(ks:aQ){x:Ag}(out:Sends),x.Sm->(Ag.gu ks x out).1.Sm
 | [],_,_,h=>h
 | k::ks,x,out,h=>by
   unfold Ag.gu;exact Sm.gu ks _ (Sm.fu _ _ h)
theorem Sm.gv:∀(n:Nat){x:Ag}(out:Sends),x.Sm->(Ag.gv n x out).1.Sm
 | 0,_,_,h=>h
 | n+1,x,out,h=>by
   unfold Ag.gv;exact Sm.gv n _ (Sm.gu (bF 4) (x:={ x with now:=x.now+1 }) _ h)
end Ag
structure Wc(nn:Nat)(l:Lt3):Prop where
 f:l.1<nn
 t:l.2.1<nn
 gd:l.2.2.Gd
 fit:lJ l.2.2=true
structure m_(nn:Nat)(b:List Lt3):Prop where
 all:∀l∈b,Wc nn l
 len:b.length<=64
def m_.nil(nn:Nat):m_ nn []:=⟨λ_ h=>by simp at h,by simp⟩
theorem m_.sends{nn node:Nat}(hn:node<nn):∀(l:Sends){b:List Lt3},m_ nn b->jT l->m_ nn (iL nn node b l)
 | [],_,h,_=>h
 | (to,m)::l,b,h,H=>by
   unfold iL;refine m_.sends hn l ?_ λq hq=>H q (by simp[hq]);split
   ·next hc=>
    obtain⟨I,Z,T⟩:=hc;refine⟨λx X=>?_,by rw[bd,bw];omega⟩;rcases List.mem_append.1 X with X|X
    ·exact h.all x X
    ·rw[List.mem_singleton.1 X]
     exact⟨hn,by show to.toNat<nn;omega,H (to,m) (by simp),I⟩
   ·exact h
theorem m_.mZ{nn node:Nat}(hn:node<nn){l:Sends}(H:jT l):∀(r:Nat){b:List Lt3},m_ nn b->m_ nn (VX nn node l r b)
 | 0,_,h=>h
 | r+1,_,h=>m_.sends hn l (m_.mZ hn H r h) H
def m_.del{nn:Nat}{b:List Lt3}(h:m_ nn b)(i:Nat):m_ nn (b.eraseIdx i):=⟨λl hl=>h.all l ((List.eraseIdx_sublist b i).subset hl),bA (List.length_eraseIdx_le b i) h.len⟩
def i6(aet B:Nat)(l:Sends):Prop:=∀q∈l,q.2.term<=(B:Int)∧(q.2.k=2∨(0<=q.1∧q.1<(aet:Int)))
section
def i6.nil:i6 aet B []:=λ_ h=>by simp at h
def i6.app{a b:Sends}(ha:i6 aet B a)(hb:i6 aet B b):i6 aet B (a++b):=λq hq=>(List.mem_append.1 hq).elim (ha q) (hb q)
def i6.one{f:Int}(h:m.term<=(B:Int))(Z:m.k=2∨(0<=f∧f<(aet:Int))):i6 aet B [(f,m)]:=λq hq=>by rw[List.mem_singleton.1 hq];exact⟨h,Z⟩
def i6.all(h:m.term<=(B:Int)):i6 aet B (uM node aet m):=λq hq=>by obtain⟨j,hj,rfl⟩:=List.mem_map.1 hq;have:=List.mem_range.1 (List.mem_filter.1 hj).1;exact⟨h,.inr ⟨dm _,by show (j:Int)<_;omega⟩⟩
def i6.mono{B':Nat}{l:Sends}(h:i6 aet B l)(hB:B<=B'):i6 aet B' l:=λq hq=>⟨by have:=(h q hq).1;omega,(h q hq).2⟩
theorem M6(leads:Bool)(own:Nat):∀(l:List En)(k:Nat)(x:jy)(out:List Sd),i6 aet B (out.map Sd.fn)->i6 aet B ((ET leads own l k x out).2.map Sd.fn)
 | [],_,_,_,ho=>ho
 | e::l,k,x,out,ho=>by
   refine M6 leads own l (k+1) (ey x e).2.2 _ ?_;split
   ·rw[bM]
    exact ho.app (i6.one (m:=fD e.tg (ey x e).1 (ey x e).2.1) (dm _) (.inl rfl))
   ·exact ho
end
structure Rp.Tb(x:Rp)(n aet B:Nat):Prop where
 node:x.node=n
 nodes:x.nodes=aet
 t:x.s.c.t<=B
 v:∀v,x.v=some v->v.t<=B
namespace Rp
variable{x:Rp}
def Tb.mono{B':Nat}(h:x.Tb n aet B)(hB:B<=B'):x.Tb n aet B':=⟨h.node,h.nodes,bA h.t hB,λv hv=>bA (h.v v hv) hB⟩
theorem Tb.apply(h:x.Tb n aet B)(k:Nat):(x.apply k).1.Tb n aet B∧i6 aet B (x.apply k).2:=⟨⟨h.node,h.nodes,h.t,h.v⟩,M6 _ _ _ _ _ _ i6.nil⟩
theorem Tb.accepts(h:x.Tb n aet B):i6 aet B x.accepts:=by unfold Rp.accepts;rw[h.nodes];exact i6.all (by show ((x.s.c.t:Nat):Int)<=_;have:=h.t;omega)
theorem Tb.counted(h:x.Tb n aet B){v:Vt}(hv:v.t<=B)(i k:Nat):(x.counted v i k).1.Tb n aet B∧i6 aet B (x.counted v i k).2:=Tb.apply (x:={ x with v:=some (v.told i k) }) ⟨h.node,h.nodes,h.t,λv' h'=>by cases h';exact hv⟩ _
theorem Tb.told(h:x.Tb n aet B){v:Vt}(hv:v.t<=B):(x.told v).1.Tb n aet B∧i6 aet B (x.told v).2:=by obtain⟨I,Z⟩:=h.counted hv x.node x.s.c.es.length;exact⟨I,Z.app I.accepts⟩
def Sw{y:Wo}(e:s.keep y=some s'):s'.c=y:=by
 unfold Vs.keep at e;split at e;·cases e;exact Vs.mR _ _
 ·cases e
def Sx{l:List En}(e:s.accept t l=some s'):s'.c.t=t∨s'=s:=by
 unfold Vs.accept at e;split at e;·cases e
 ·split at e
  ·cases e;exact .inr rfl
  ·refine .inl ?_
   rw[Sw e];unfold Vs.next;split<;>rfl
def D5(e:s.promise t=some s'):s'.c.t=t:=by
 unfold Vs.promise at e;split at e;·rw[Sw e]
 ·cases e
def Tb.acc(h:x.Tb n aet B){l:List En}(ht:t<=B)(e:x.s.accept t l=some s):s.c.t<=B:=by
 rcases Sx e with I|I
 ·omega
 ·rw[I];exact h.t
theorem Tb.won(h:x.Tb n aet B){v:Vt}(hv:v.t<=B):(x.won v).1.Tb n aet B∧i6 aet B (x.won v).2:=by
 unfold Rp.won;split;·exact⟨⟨h.node,h.nodes,h.t,λ_ h'=>by cases h'⟩,i6.nil⟩
 ·next s e=>exact Tb.told (x:={ x with s:=s,leads:=true,own:=s.c.es.length }) ⟨h.node,h.nodes,h.acc hv e,h.v⟩ hv
def Sy(v:Vt)(i had:Nat)(l:List En):(v.promise i had l).2.t=v.t:=by
 unfold Vt.promise;repeat' split
 all_goals rfl
theorem Tb.lead(h:x.Tb n aet B)(hN:1<=aet):(x.lead).1.Tb n aet (B+aet)∧i6 aet (B+aet) (x.lead).2:=by
 have h8:=h.mono (B':=B+aet) ap;unfold Rp.lead;split;·exact⟨h8,i6.nil⟩
 ·split
  ·exact⟨h8,i6.nil⟩
  ·next s e=>
   have htl:=Ah x.s.c.t x.node x.nodes (by rw[h.nodes];exact hN);have kc:s.c.t<=B+aet:=by rw[D5 e];have:=h.t;have:=h.nodes;omega
   have hv:((Vt.new s.c.t x.nodes).promise x.node s.c.h s.c.es).2.t<=B+aet:=by rw[Sy];exact kc
   have me:Rp.Tb { x with s:=s,leads:=false,v:=some ((Vt.new s.c.t x.nodes).promise x.node s.c.h s.c.es).2 } n aet (B+aet):=⟨h.node,h.nodes,kc,λv' h'=>by cases h';exact hv⟩;dsimp only;split;·exact me.won hv
   ·refine⟨me,?_⟩
    rw[h.nodes];exact i6.all (by show ((s.c.t:Nat):Int)<=_;omega)
theorem Tb.ask(h:x.Tb n aet B)(f:Int)(e:En):(x.ask f e).1.Tb n aet B∧i6 aet B (x.ask f e).2:=by
 unfold Rp.ask;split
 ·next v _ hv=>
  split;·exact⟨h,i6.one (dm _) (.inl rfl)⟩
  ·split
   ·exact⟨h,i6.one (dm _) (.inl rfl)⟩
   ·next s e1=>
    have hv:=h.v v hv;exact Tb.told (x:={ x with s:=s }) ⟨h.node,h.nodes,h.acc hv e1,h.v⟩ hv
 ·exact⟨h,i6.one (dm _) (.inl rfl)⟩
theorem Tb.prepare(h:x.Tb n aet B){f:Int}(hf:0<=f∧f<(aet:Int)){t:Nat}(ht:t<=B):(x.prepare f t).1.Tb n aet B∧i6 aet B (x.prepare f t).2:=by
 unfold Rp.prepare;split;·exact⟨h,i6.nil⟩
 ·next s e=>exact⟨⟨h.node,h.nodes,by show s.c.t<=B;rw[D5 e];exact ht,λ_ h'=>by cases h'⟩,i6.one (by show (t:Int)<=_;omega) (.inr hf)⟩
theorem Tb.accept(h:x.Tb n aet B){f:Int}(hf:0<=f∧f<(aet:Int)){t cm:Nat}{l:List En}(ht:t<=B):(x.accept f t l cm).1.Tb n aet B∧i6 aet B (x.accept f t l cm).2:=by
 unfold Rp.accept;split;·exact⟨h,i6.nil⟩
 ·next s e=>
  have Z:Rp.Tb { x with s:=s } n aet B:=⟨h.node,h.nodes,h.acc ht e,h.v⟩;dsimp only;refine⟨?_,i6.one (by show (t:Int)<=_;omega) (.inr hf)⟩;split;·exact (Tb.apply (x:=({ x with s:=s }:Rp).down) ⟨Z.node,Z.nodes,Z.t,λ_ h'=>by cases h'⟩ _).1
  ·exact (Z.apply _).1
theorem Tb.jH(h:x.Tb n aet B)(F t had:Nat)(l:List En):(jH x F t had l).1.Tb n aet B∧i6 aet B (jH x F t had l).2:=by
 unfold Go.Proofs.YtpeepcmdehhbgaaGreatDoor.jH;split;·exact⟨h,i6.nil⟩
 ·next v hv=>
  split
  ·have sV:(v.promise F had l).2.t<=B:=by rw[Sy];exact h.v v hv
   have T:Rp.Tb { x with v:=some (v.promise F had l).2 } n aet B:=⟨h.node,h.nodes,h.t,λv' h'=>by cases h';exact sV⟩;split;·exact T.won sV
   ·exact⟨T,i6.nil⟩
  ·exact⟨h,i6.nil⟩
theorem Tb.nV(h:x.Tb n aet B)(F t k:Nat):(nV x F t k).1.Tb n aet B∧i6 aet B (nV x F t k).2:=by
 unfold Go.Proofs.YtpeepcmdehhbgaaGreatDoor.nV;split
 ·split
  ·next v hv=>
   split;·exact h.counted (h.v v hv) F k
   ·exact⟨h,i6.nil⟩
  ·exact⟨h,i6.nil⟩
 ·exact⟨h,i6.nil⟩
theorem Tb.recv(h:x.Tb n aet B)(f:Int){m:Ms}(hm:m.term<=(B:Int)):(x.recv f m).1.Tb n aet B∧i6 aet B (x.recv f m).2:=by
 unfold Rp.recv;split;·exact h.ask f m.e
 ·split
  ·exact⟨h,i6.nil⟩
  ·next hf=>
   have hf:x.hears f:=Classical.byContradiction hf;have WY:0<=f∧f<(aet:Int):=⟨hf.1,by have:=hf.2.1;rw[h.nodes] at this;exact this⟩;split;·exact h.prepare WY ap
   ·split
    ·exact h.jH _ _ _ _
    ·split
     ·exact h.accept WY ap
     ·split
      ·exact h.nV _ _ _
      ·exact⟨h,i6.nil⟩
theorem Tb.ticks(h:x.Tb n aet B):i6 aet B x.ticks:=by
 unfold Rp.ticks;split;·exact h.accepts
 ·exact i6.nil
end Rp
def Sz(i:lZ):Prop:=i=(0,0,0)∨∃a k s:Nat,i=((a:Int),(k:Int),(s:Int))∧1<=a∧k<4∧s<=9223372036854775807
def uX(aet:Nat)(l:Sends):Prop:=∀q∈l,q.2.term=0∧0<=q.1∧q.1<(aet:Int)
def uX.nil:uX aet []:=λ_ h=>by simp at h
def uX.more{l:Sends}(h:uX aet l)(hf:f<aet)(hm:m.term=0):uX aet (l++[((f:Int),m)]):=λq hq=>by
 rcases List.mem_append.1 hq with hq|hq
 ·exact h q hq
 ·rw[List.mem_singleton.1 hq];exact⟨hm,dm _,by show (f:Int)<_;omega⟩
structure Ag.Ti(x:Ag)(nd aet M:Nat):Prop where
 node:x.node=nd
 f9:x.f9=aet
 tm:x.Tm M
 ask:∀e∈x.ask,Sz e.2
 last:x.last<aet
namespace Ag
variable{x y:Ag}
theorem Ti.mono{M':Nat}(h:x.Ti nd aet M)(hm:M<=M'):x.Ti nd aet M':=⟨h.node,h.f9,h.tm.mono hm,h.ask,h.last⟩
structure oA(x y:Ag):Prop where
 node:y.node=x.node
 f9:y.f9=x.f9
 tag:y.tag=x.tag
 now:y.now=x.now
 tr:y.tr=x.tr
 ask:y.ask=x.ask
 last:y.last=x.last
def oA.refl(x:Ag):oA x x:=⟨rfl,rfl,rfl,rfl,rfl,rfl,rfl⟩
theorem oA.trans{z:Ag}(h:oA x y)(h':oA y z):oA x z:=⟨h'.node.trans h.node,h'.f9.trans h.f9,h'.tag.trans h.tag,h'.now.trans h.now,h'.tr.trans h.tr,h'.ask.trans h.ask,h'.last.trans h.last⟩
def oA.ti(h:oA x y)(X:x.Ti nd aet M):y.Ti nd aet M:=⟨h.node.trans X.node,h.f9.trans X.f9,⟨by rw[h.tag];exact X.tm.tag,by rw[h.now];exact X.tm.now,by rw[h.tr];exact X.tm.tr⟩,by rw[h.ask];exact X.ask,by rw[h.last];exact X.last⟩
theorem oA.gn(x:Ag)(d:Dl):oA x (x.gn d).1:=by
 unfold Ag.gn;split;·exact oA.refl _
 ·split
  ·exact oA.refl _
  ·exact⟨rfl,rfl,rfl,rfl,rfl,rfl,rfl⟩
theorem oA.sync(x:Ag):oA x x.sync:=⟨rfl,rfl,rfl,rfl,rfl,rfl,rfl⟩
theorem oA.l7{k:Nat}{ds:List Dl}(h:x.l7 k ds=some y):oA x y:=by obtain⟨_,_,_,rfl⟩:=CW h;exact⟨rfl,rfl,rfl,rfl,rfl,rfl,rfl⟩
theorem oA.kL{k:Nat}:∀(f:Nat)(x:Ag)(l:List Dl),oA x (x.kL k f l).1
 | 0,x,_=>oA.refl x
 | f+1,x,l=>by
   unfold Ag.kL;split;·exact oA.refl _
   ·split
    ·exact oA.refl _
    ·next y e=>exact (oA.l7 e).trans (oA.kL f y (l.drop 8))
theorem oA.eE:∀(ks:aQ)(x:Ag),oA x (x.eE ks).1
 | [],x=>oA.refl x
 | k::ks,x=>by
   unfold Ag.eE;split;·exact (oA.kL _ x _).trans (oA.eE ks _)
   ·exact oA.kL _ x _
theorem oA.cut(x:Ag):oA x x.cut.1:=by
 unfold Ag.cut;split;·exact oA.eE _ x
 ·exact (oA.eE _ x).trans (oA.sync _)
theorem Ti.next(h:x.Ti nd aet M){i:lZ}(hi:Sz i):(x.next i).Ti nd aet (M+1):=⟨h.node,h.f9,⟨Nat.succ_le_succ h.tm.tag,dC h.tm.now,(h.tm.mono (Nat.le_succ M)).tr⟩,λe he=>by
 rcases zV he with rfl|he
 ·exact hi
 ·exact h.ask e he,h.last⟩
theorem Ti.send(h:x.Ti nd aet M){i:lZ}(hi:Sz i):(x.send i (x.tries i)).Ti nd aet (M+1):=⟨h.node,h.f9,h.tm.send i (h.tm.tries i).1,(h.next hi).ask,h.last⟩
theorem Ti.fu{k:Nat}(K:k<4)(qI:1<=nd):∀(l:List aes.Ab)(x:Ag)(M:Nat)(out:Sends),(∀b∈l,GY b)->x.Ti nd aet M->uX aet out->(Ag.fu k l x out).1.Ti nd aet (M+l.length)∧uX aet (Ag.fu k l x out).2
 | [],_,_,_,_,h,ho=>⟨h,ho⟩
 | b::l,x,M,out,hb,h,ho=>by
   have I:=(hb b (by simp)).1;have hi:Sz (x.jm k b.1) := .inr ⟨nd,k,b.1.toNat,by unfold Ag.jm;rw[h.node,cQ ap],qI,K,by omega⟩;unfold Ag.fu;rw[bC];split
   ·have:=Ti.fu K qI l _ (M+1) (out++[(((x.to (x.tries (x.jm k b.1)).1:Nat):Int),gH (x.uR (x.jm k b.1) b.2))]) (λc hc=>hb c (by simp[hc])) (h.send hi) (ho.more (by
     unfold Ag.to;rw[h.f9];exact Nat.mod_lt _ (by have:=h.last;omega)) rfl)
    exact⟨this.1.mono ap,this.2⟩
   ·have:=Ti.fu K qI l x M out (λc hc=>hb c (by simp[hc])) h ho
    exact⟨this.1.mono ap,this.2⟩
theorem Ti.gu(qI:1<=nd):∀(ks:aQ)(x:Ag)(M:Nat)(out:Sends),(∀k∈ks,k<4)->x.b.Wf->x.node<8->x.tag+4*ks.length<=9223372036854775807->jT out->x.Ti nd aet M->uX aet out->(Ag.gu ks x out).1.Ti nd aet (M+4*ks.length)∧uX aet (Ag.gu ks x out).2
 | [],_,_,_,_,_,_,_,_,h,ho=>⟨h,ho⟩
 | k::ks,x,M,out,K,hb,hn,ht,H,h,ho=>by
   rw[bC] at ht ⊢;have Df:∀b∈(x.b.qu k).l.take 4,GY b:=λb xh=>hb.bt k b (bY xh);have hl:((x.b.qu k).l.take 4).length<=4:=by rw[bn];omega
   obtain⟨g1,g2,_⟩:=uW (K k (by simp)) _ x out Df hn hb ap H;obtain⟨t1,t2⟩:=Ti.fu (aet:=aet) (K k (by simp)) qI _ x M out Df h ho;unfold Ag.gu;have hbw:(Ag.fu k ((x.b.qu k).l.take 4) x out).1.b.Wf:=by rw[g2.b];exact hb
   have:=Ti.gu qI ks _ (M+4) _ (λc hc=>K c (by simp[hc])) hbw (by rw[g2.node];exact hn) (by have:=g2.tag;omega) g1 (t1.mono ap) t2;exact⟨this.1.mono ap,this.2⟩
theorem Ti.gv(qI:1<=nd):∀(n:Nat)(x:Ag)(M:Nat)(out:Sends),x.b.Wf->x.node<8->x.tag+16*n<=9223372036854775807->jT out->x.Ti nd aet M->uX aet out->(Ag.gv n x out).1.Ti nd aet (M+17*n)∧uX aet (Ag.gv n x out).2
 | 0,_,_,_,_,_,_,_,h,ho=>⟨h,ho⟩
 | n+1,x,M,out,hb,hn,ht,H,h,ho=>by
   have I:Ag.Ti { x with now:=x.now+1 } nd aet (M+1):=⟨h.node,h.f9,⟨dC h.tm.tag,Nat.succ_le_succ h.tm.now,(h.tm.mono (Nat.le_succ M)).tr⟩,h.ask,h.last⟩;have hr:∀k∈bF 4,k<4:=λk K=>List.mem_range.1 K;obtain⟨g1,g2,_⟩:=Ai (bF 4) { x with now:=x.now+1 } out hr hn hb (by show x.tag+_<=_;rw[di];omega) H;obtain⟨t1,t2⟩:=Ti.gu qI (bF 4) { x with now:=x.now+1 } (M+1) out hr hb hn (by show x.tag+_<=_;rw[di];omega) H I ho;rw[di] at g2 t1;have a0Y:(Ag.gu (bF 4) { x with now:=x.now+1 } out).1.tag<=x.tag+4*4:=g2.tag;unfold Ag.gv Ag.mG;have:=Ti.gv qI n (Ag.gu (bF 4) { x with now:=x.now+1 } out).1 (M+1+4*4) _ (by rw[g2.b];exact hb) (by rw[g2.node];exact hn) ap g1 t1 t2;exact⟨this.1.mono ap,this.2⟩
def Al{κ α:Type}[DecidableEq κ]{q:List (κ×α)}{k:κ}{e:κ×α}(h:e∈ij q k):e∈q:=by unfold ij at h;exact (List.mem_filter.1 h).1
def SB{κ α:Type}[DecidableEq α]{q:List (κ×α)}{v:α}{e:κ×α}(h:e∈xF q v):e∈q:=(List.mem_filter.1 h).1
def Wd(x:Ag)(r:Rc):oA x (x.put r):=by
 unfold Ag.put;split;·exact⟨rfl,rfl,rfl,rfl,rfl,rfl,rfl⟩
 ·exact oA.refl _
theorem Ti.fin(h:x.Ti nd aet M)(a k s:Nat):(x.fin a k s).Ti nd aet M:=by have I:=(Wd x (.dn k s)).ti h;exact⟨I.node,I.f9,⟨I.tm.tag,I.tm.now,λe he=>h.tm.tr e (Al he)⟩,λe he=>h.ask e (SB he),I.last⟩
theorem Ti.of(h:x.Ti nd aet M)(tg:Nat):Sz (x.jO tg):=by
 unfold Ag.jO;cases hf:r_ x.ask (tg:Int) with
 | none=>exact .inl rfl
 | some t=>
   obtain⟨e,he,rfl⟩:=Er hf;exact h.ask e he
theorem Ti.took(h:x.Ti nd aet M){f tg code:Nat}(hf:f<aet):(x.took f tg code).Ti nd aet M:=by
 have I:Ag.Ti { x with ask:=ij x.ask (tg:Int) } nd aet M:=⟨h.node,h.f9,⟨h.tm.tag,h.tm.now,h.tm.tr⟩,λe he=>h.ask e (Al he),h.last⟩;have Z:Ag.Ti (if code=6 then { x with ask:=ij x.ask (tg:Int) } else { x with ask:=ij x.ask (tg:Int),last:=f }) nd aet M:=by
  split;·exact I
  ·exact⟨I.node,I.f9,⟨I.tm.tag,I.tm.now,I.tm.tr⟩,I.ask,hf⟩
 have hn:(if code=6 then ({ x with ask:=ij x.ask (tg:Int) }:Ag) else { x with ask:=ij x.ask (tg:Int),last:=f }).now=x.now:=by split<;>rfl
 unfold Ag.took;dsimp only;generalize (if code=6 then ({ x with ask:=ij x.ask (tg:Int) }:Ag) else { x with ask:=ij x.ask (tg:Int),last:=f })=y at Z hn;split
 ·split
  ·exact⟨Z.node,Z.f9,⟨Z.tm.tag,Z.tm.now,Z.tm.tr⟩,Z.ask,by rw[h.f9];exact Nat.mod_lt _ (by have:=h.last;omega)⟩
  ·exact Z
 ·split
  ·exact Z.fin _ _ _
  ·split
   ·refine⟨Z.node,Z.f9,⟨Z.tm.tag,Z.tm.now,λe he=>?_⟩,Z.ask,Z.last⟩
    rcases zV he with rfl|he
    ·exact⟨(Z.tm.tries _).1,by have:=h.tm.now;show x.now<=_;omega⟩
    ·exact Z.tm.tr e he
   ·exact Z
theorem Ti.new(nd aet:Nat)(hN:1<=aet)(rs:List Rc)(n:Nat):(Ag.new nd aet rs n).Ti nd aet (n*4294967296):=⟨rfl,rfl,⟨bh _,bo _,λ_ h=>by simp[Ag.new] at h⟩,λ_ h=>by simp[Ag.new] at h,hN⟩
end Ag
def jD(aeu:Nat)(x:Wl)(a:Ac)(ev:Ev)(x':Wl):Prop:=∀w D,Lw N D 33 #[aeu,aZ (jz a)] [.o (iP aeu x)] (λ(_:Unit)e=>e=b5 (aZ (li { ev with bag:=(x'.net.length:Int) }))) (λ_=>[.o (iP aeu x')]) w
def jD.of{x':Wl}{a:Ac}{ev:Ev}(hq:∀P,qK P x->qK P x')(h:∀(P:nt),qK P x->∀w D,Lw N D 88 #[((P.w,0):E),aZ (jz a)] (dQ P x) (λ(_:Unit)e=>e=b5 (aZ (li ev))) (λ_=>dQ P x') w):jD aeu x a ev x':=λw D=>
 a3S w D aeu x x' a ev λw D=>W3 hq (λP w D hw hQ=>by subst hw;exact h P hQ w D) w D
def Kt(hi:i<x.na)(X:(x.ag i).Wf)(ht:(x.ag i).Tm M)(hM:M<=576460752303423488)(b:Int)(s:aR)(hn:1<=n∧n<=1024):jD aeu x ⟨1,((x.nr+i:Nat):Int),b,(n:Int),s⟩ { Ev.zero with node:=((x.nr+i:Nat):Int) } ((x.jQ i ((x.ag i).gv n []).1).send (x.nr+i) ((x.ag i).gv n []).2):=
 jD.of (λP h=>⟨h.n,h.r,h.a,h.d,h.c,h.m⟩) λP hQ w D=>by obtain⟨I,_,T⟩:=Ag.Aj n (x.ag i) [] X.ok.node X.bk (by have:=ht.tag;omega) jT.nil;rw[cx] at T;exact GU w D P x _ _ b _ s _ λw D=>VV w D P x hQ i hi X.ok M ht hM b n s hn I ap
def Ku(hi:i<x.nr)(X:(x.rp i).Wf)(b:Int)(s:aR)(hn:1<=n∧n<=1024):jD aeu x ⟨1,(i:Int),b,(n:Int),s⟩ { Ev.zero with node:=(i:Int) } (x.mZ i (x.rp i).ticks n):=
 jD.of (λP h=>⟨h.n,h.r,h.a,h.d,h.c,h.m⟩) λP hQ w D=>
  GU w D P x _ _ b _ s _ λw D=>VY w D P x hQ i hi X.ok b n s hn X.ticks (bA X.On am)
def Bz(he:x.net[i]?=some (f,t,m))(hc:x.cut (f*8+t)=false)(hl:Wc x.nn (f,t,m))(ht:t<x.nr)(X:(x.rp t).Wf)(a b:Int)(s:aR):jD aeu x ⟨2,a,b,(i:Int),s⟩ { Ev.zero with node:=(t:Int) } (((x.del i).rF t ((x.rp t).recv (f:Int) m).1).send t ((x.rp t).recv (f:Int) m).2):=
 jD.of (λP h=>⟨h.n,h.r,h.a,h.d,h.c,h.m⟩) λP hQ w D=>
  oz w D P x _ a b _ s _ λw D=>Kj w D P x hQ i f t m he hc hl.gd hl.fit ht X.ok (X.recv (f:Int) hl.gd).2 (bA (X.Sp (f:Int) hl.gd) am)
def Wg(hi:i<x.nr)(X:(x.rp i).Wf)(ht:(x.rp i).s.c.t<=1099511627776)(b n:Int)(s:aR):jD aeu x ⟨8,(i:Int),b,n,s⟩ { Ev.zero with node:=(i:Int) } ((x.rF i ((x.rp i).lead).1).send i ((x.rp i).lead).2):=
 jD.of (λP h=>⟨h.n,h.r,h.a,h.d,h.c,h.m⟩) λP hQ w D=>Sf w D P x hQ i hi X.ok ht b n s X.lead.2 (bA X.Sl am)
def Ou(hi:i<x.na)(X:(x.ag i).Wf)(b:Int){s:aR}(hs:s.size<=1000000)(hn:n<=9223372036854775807):jD aeu x ⟨9,((x.nr+i:Nat):Int),b,(n:Int),s⟩ { Ev.zero with why:=((x.ag i).gn (s,n)).2 } (x.jQ i ((x.ag i).gn (s,n)).1):=
 jD.of (λP h=>⟨h.n,h.r,h.a,h.d,h.c,h.m⟩) λP hQ w D=>Og w D P x _ _ b _ s _ λw D=>GQ w D P x hQ i hi X.ok b n s hs hn
def SC(hi:i<x.na)(X:(x.ag i).Wf)(b n:Int)(s:aR):jD aeu x ⟨10,((x.nr+i:Nat):Int),b,n,s⟩ { Ev.zero with code:=((x.ag i).cut.2.length:Int) } (x.jQ i (x.ag i).cut.1):=
 jD.of (λP h=>⟨h.n,h.r,h.a,h.d,h.c,h.m⟩) λP hQ w D=>Kk w D P x _ _ b _ s _ λw D=>Kg w D P x hQ i hi X.ok b n s
def Wh(hi:i<x.na)(X:(x.ag i).Wf)(b n:Int){s:aR}(hp:aev.gl s=0)(ht:(x.ag i).tag<=4611686018427387904):jD aeu x ⟨13,((x.nr+i:Nat):Int),b,n,s⟩ Ev.zero ((x.jQ i ((x.ag i).look s).1).send (x.nr+i) [((x.ag i).last,gH (k_ s (x.ag i).node ((x.ag i).tag+1)))]):=
 jD.of (λ_ h=>⟨h.n,h.r,h.a,h.d,h.c,h.m⟩) λP hQ w D=>Kl w D P x _ _ b _ s _ λw D=>Oe w D P x hQ i hi b n s (jM hp) hp ht X.ok.node
def BA{k n:Int}(K:k≠0)(hT:∀(P:nt)w,j9 N 209 #[((P.g,0):E),J n] (λe=>e=b5 (a_ #[aZ aL,J k])) (Ne.fm P.g (x.nn:Int) (x.net.map kE) x.cut) (Ne.fm P.g (x.nn:Int) (x.net.map kE) x.cut) w)(a b:Int)(s:aR):jD aeu x ⟨2,a,b,n,s⟩ { Ev.zero with why:=k } x:=
 jD.of (λ_ h=>h) λP _ w D=>oz w D P x _ a b _ s _ λw D=>Ki w D P x n k K (hT P)
def Wi(hi:i<x.net.length)(a b:Int)(s:aR):jD aeu x ⟨3,a,b,(i:Int),s⟩ { Ev.zero with why:=0 } (x.del i):=
 jD.of (λ_ h=>⟨h.n,h.r,h.a,h.d,h.c,h.m⟩) λP _ w D=>Se w D P x (x.net.eraseIdx i) x.cut a b i 0 s λw=>by rw[<-GR];exact Ne.Q1 w P.g (x.nn:Int) (x.net.map kE) x.cut i (by rw[bj];exact hi)
def Ov(ha:a<x.na)(he:x.net[i]?=some (f,x.nr+a,fD (tg:Int) (code:Int) n))(hc:x.cut (f*8+(x.nr+a))=false)(hl:Wc x.nn (f,x.nr+a,fD (tg:Int) (code:Int) n))(I:tg<=9223372036854775807)(Z:code<=255)(X:(x.ag a).Wf)(hf:f<(x.ag a).f9)(l8:(r_ (x.ag a).ask (tg:Int)).isSome=true)(hid:(x.ag a).jO tg=(0,0,0)∨∃a' k s:Nat,(x.ag a).jO tg=((a':Int),(k:Int),(s:Int))∧1<=a'∧k<4∧s<=9223372036854775807)(A B:Int)(s:aR):jD aeu x ⟨2,A,B,(i:Int),s⟩ { Ev.zero with node:=((x.nr+a:Nat):Int),code:=(code:Int),id:=(x.ag a).jO tg,n:=if code=8 then n else 0 } ((x.del i).jQ a ((x.ag a).took f tg code)):=
 jD.of (λ_ h=>⟨h.n,h.r,h.a,h.d,h.c,h.m⟩) λP hQ w D=>oz w D P x _ A B _ s _ λw D=>Af w D P x hQ i f a tg code n ha he hc hl.gd hl.fit _ _ code λw U p _=>by have:=Kb w U p (x.ag a) X.ok (f:Int) tg code n I Z ⟨by omega,by omega⟩ l8 hid;rw[cG] at this;exact this
def EA(ha:a<x.na)(he:x.net[i]?=some (f,x.nr+a,fD (tg:Int) (code:Int) n))(hc:x.cut (f*8+(x.nr+a))=false)(hl:Wc x.nn (f,x.nr+a,fD (tg:Int) (code:Int) n))(I:tg<=9223372036854775807)(Z:code<=255)(hf:f<(x.ag a).f9)(l8:r_ (x.ag a).ask (tg:Int)=none)(A B:Int)(s:aR):jD aeu x ⟨2,A,B,(i:Int),s⟩ { Ev.zero with node:=((x.nr+a:Nat):Int),code:=((0:Nat):Int),id:=(0,0,0),n:=if (0:Nat)=8 then n else 0 } ((x.del i).jQ a (x.ag a)):=
 jD.of (λ_ h=>⟨h.n,h.r,h.a,h.d,h.c,h.m⟩) λP hQ w D=>oz w D P x _ A B _ s _ λw D=>Af w D P x hQ i f a tg code n ha he hc hl.gd hl.fit _ _ 0 λw U p _=>
  GF w U p (x.ag a) (f:Int) tg code n I Z ⟨by omega,by omega⟩ l8
def pI(nr B:Nat)(b:List Lt3):Prop:=∀l∈b,l.2.2.term<=(B:Int)∧(nr<=l.2.1->l.2.2.k=2∧l.1<nr)
section
variable{nn:Nat}
def pI.mono{B':Nat}{b:List Lt3}(h:pI nr B b)(hB:B<=B'):pI nr B' b:=λl hl=>⟨by have:=(h l hl).1;omega,(h l hl).2⟩
theorem pI.rp(hn:node<nr):∀(l:Sends){b:List Lt3},pI nr B b->i6 nr B l->pI nr B (iL nn node b l)
 | [],_,h,_=>h
 | (to,m)::l,b,h,H=>by
   unfold iL;refine pI.rp hn l ?_ λq hq=>H q (by simp[hq]);split
   ·intro x X
    rcases List.mem_append.1 X with X|X
    ·exact h x X
    ·rw[List.mem_singleton.1 X]
     have I:=H (to,m) (by simp);refine⟨I.1,λZ=>⟨I.2.resolve_right λT=>?_,hn⟩⟩;have Z:nr<=to.toNat:=Z;have T:0<=to∧to<(nr:Int):=T;omega
   ·exact h
theorem pI.ag:∀(l:Sends){b:List Lt3},pI nr B b->uX nr l->pI nr B (iL nn node b l)
 | [],_,h,_=>h
 | (to,m)::l,b,h,H=>by
   unfold iL;refine pI.ag l ?_ λq hq=>H q (by simp[hq]);split
   ·intro x X
    rcases List.mem_append.1 X with X|X
    ·exact h x X
    ·rw[List.mem_singleton.1 X]
     have I:=H (to,m) (by simp);refine⟨by have h5:m.term=0:=I.1;show m.term<=_;omega,λZ=>?_⟩;have Z:nr<=to.toNat:=Z;have T:0<=to∧to<(nr:Int):=I.2;omega
   ·exact h
theorem pI.mZ(hn:node<nr){l:Sends}(H:i6 nr B l):∀(r:Nat){b:List Lt3},pI nr B b->pI nr B (VX nn node l r b)
 | 0,_,h=>h
 | r+1,_,h=>pI.rp hn l (pI.mZ hn H r h) H
def pI.del{b:List Lt3}(h:pI nr B b)(i:Nat):pI nr B (b.eraseIdx i):=λl hl=>h l ((List.eraseIdx_sublist b i).subset hl)
end
structure Rp.Go(x:Rp)(n aet B:Nat):Prop where
 wf:x.Wf
 sm:x.s.Sm
 tb:x.Tb n aet B
structure Ag.Go(x:Ag)(nd aet M:Nat):Prop where
 wf:x.Wf
 sm:x.Sm
 ti:x.Ti nd aet M
structure Wl.Good(x:Wl)(M:Nat):Prop where
 n:1<=x.nr∧x.nn<=8
 rp:∀i,i<x.nr->(x.rp i).Go i x.nr (8*M)
 ag:∀i,i<x.na->(x.ag i).Go (x.nr+i) x.nr (8589934592*M)
 net:m_ x.nn x.net
 nb:pI x.nr (8*M) x.net
namespace Wl
theorem Good.mono{M':Nat}(h:x.Good M)(hm:M<=M'):x.Good M':=⟨h.n,λi hi=>⟨(h.rp i hi).wf,(h.rp i hi).sm,(h.rp i hi).tb.mono ap⟩,λi hi=>⟨(h.ag i hi).wf,(h.ag i hi).sm,(h.ag i hi).ti.mono ap⟩,h.net,h.nb.mono ap⟩
theorem Good.rF(h:x.Good M){i:Nat}{y:Rp}(hy:y.Go i x.nr (8*M)):(x.rF i y).Good M:=⟨h.n,λj hj=>by
 show (at_ x.rp i y j).Go j x.nr _;unfold at_;split;·next e=>rw[e];exact hy
 ·exact h.rp j hj,h.ag,h.net,h.nb⟩
theorem Good.jQ(h:x.Good M){i:Nat}{y:Ag}(hy:y.Go (x.nr+i) x.nr (8589934592*M)):(x.jQ i y).Good M:=⟨h.n,h.rp,λj hj=>by
 show (at_ x.ag i y j).Go (x.nr+j) x.nr _;unfold at_;split;·next e=>rw[e];exact hy
 ·exact h.ag j hj,h.net,h.nb⟩
theorem Good.del(h:x.Good M)(i:Nat):(x.del i).Good M:=⟨h.n,h.rp,h.ag,h.net.del i,h.nb.del i⟩
def Good.XA(h:x.Good M)(hi:i<x.nr){l:Sends}(H:jT l)(ho:i6 x.nr (8*M) l):(x.send i l).Good M:=⟨h.n,h.rp,h.ag,h.net.sends (by unfold Wl.nn;omega) l H,h.nb.rp hi l ho⟩
def Good.XB(h:x.Good M)(hi:i<x.na){l:Sends}(H:jT l)(ho:uX x.nr l):(x.send (x.nr+i) l).Good M:=⟨h.n,h.rp,h.ag,h.net.sends (by unfold Wl.nn;omega) l H,h.nb.ag l ho⟩
end Wl
theorem a07(h:m.Gd)(K:m.k=2):∃tg co n:Nat,m=fD (tg:Int) (co:Int) n∧tg<=9223372036854775807∧co<=255:=by
 cases h with
 | ans tg c n I Z _=>exact⟨tg,c,n,rfl,I,Z⟩
 | ask=>exact absurd K (show ¬ (1:Int)=2 by decide)
 | xB=>exact absurd K (show ¬ (3:Int)=2 by decide)
 | prom=>exact absurd K (show ¬ (4:Int)=2 by decide)
 | acc=>exact absurd K (show ¬ (5:Int)=2 by decide)
 | OS=>exact absurd K (show ¬ (6:Int)=2 by decide)
def Wl.lu(x:Wl)(i:Nat):Ev×Wl:=
 match x.net[i]? with
 | none=>({ Ev.zero with why:=23 },x)
 | some l=>
   if x.cut (l.1*8+l.2.1)=true then ({ Ev.zero with why:=26 },x) else
   if l.2.1<x.nr then ({ Ev.zero with node:=(l.2.1:Int) },((x.del i).rF l.2.1 ((x.rp l.2.1).recv (l.1:Int) l.2.2).1).send l.2.1 ((x.rp l.2.1).recv (l.1:Int) l.2.2).2) else
   if (r_ (x.ag (l.2.1-x.nr)).ask l.2.2.tag).isSome=true then
    ({ Ev.zero with node:=(l.2.1:Int),code:=l.2.2.code,id:=(x.ag (l.2.1-x.nr)).jO l.2.2.tag.toNat,n:=if l.2.2.code=8 then l.2.2.n else 0 },
     (x.del i).jQ (l.2.1-x.nr) ((x.ag (l.2.1-x.nr)).took l.1 l.2.2.tag.toNat l.2.2.code.toNat))
   else ({ Ev.zero with node:=(l.2.1:Int) },(x.del i).jQ (l.2.1-x.nr) (x.ag (l.2.1-x.nr)))
def FA{i:Int}(h:i<0∨(n:Int)<=i):Ne.iR (n:Int) i=false:=by unfold Ne.iR;simp;omega
def a08(h:x.Good M)(hi:i<x.net.length)(a b:Int)(s:aR):jD aeu x ⟨2,a,b,(i:Int),s⟩ (x.lu i).1 (x.lu i).2:=by
 obtain⟨l,hl⟩:∃l,x.net[i]?=some l:=⟨_,List.getElem?_eq_getElem hi⟩;have fM:=h.net.all l (List.mem_of_getElem? hl);have Ic:=h.nb l (List.mem_of_getElem? hl);obtain⟨f,t,m⟩:=l;unfold Wl.lu;rw[hl];dsimp only at fM Ic ⊢;by_cases hc:x.cut (f*8+t)=true
 ·rw[aA hc]
  refine BA (k:=26) am (λP w=>?_) a b s;have hi2:i<(x.net.map kE).length:=by rw[bj];exact hi
  have e:(x.net.map kE)[i]=kE (f,t,m):=by
   have T:(x.net.map kE)[i]?=some (kE (f,t,m)):=by rw[List.getElem?_map,hl];rfl
   rw[List.getElem?_eq_getElem hi2] at T;exact Option.some.inj T
  exact Ne.FC w P.g (x.nn:Int) (x.net.map kE) x.cut i hi2 (by rw[e];exact hc)
 ·rw[aB hc]
  have hc:x.cut (f*8+t)=false:=by simpa using hc
  by_cases ht:t<x.nr
  ·rw[aA ht]
   exact Bz hl hc fM ht (h.rp t ht).wf a b s
  ·rw[aB ht]
   have Mz:t<x.nn:=fM.t;obtain⟨A,rfl⟩:∃A,t=x.nr+A:=⟨t-x.nr,by omega⟩;have hA:A<x.na:=by unfold Wl.nn at Mz;omega
   rw[Nat.add_sub_cancel_left];obtain⟨K,hf⟩:=Ic.2 (by show x.nr<=x.nr+A;omega);have Tn:=h.ag A hA;obtain⟨tg,co,n,rfl,I,Z⟩:=a07 fM.gd K;have e1:(fD (tg:Int) (co:Int) n).tag=(tg:Int):=rfl;have e2:(fD (tg:Int) (co:Int) n).code=(co:Int):=rfl;have e3:(fD (tg:Int) (co:Int) n).n=n:=rfl;rw[e1,e2,e3,cG,cG];have qC:f<(x.ag A).f9:=by rw[Tn.ti.f9];exact hf
   by_cases l8:(r_ (x.ag A).ask (tg:Int)).isSome=true
   ·rw[aA l8]
    have:=Ov (aeu:=aeu) (x:=x) (n:=n) hA hl hc fM I Z Tn.wf qC l8 (Tn.ti.of tg) a b s;have h8:(if co=8 then n else 0)=if (co:Int)=8 then n else 0:=by
     by_cases h8:co=8;·rw[aA h8,aA ap]
     ·rw[aB h8,aB ap]
    rw[h8] at this;exact this
   ·rw[aB l8]
    have l8:r_ (x.ag A).ask (tg:Int)=none:=by simpa using l8
    exact EA (aeu:=aeu) (x:=x) (n:=n) hA hl hc fM I Z qC l8 a b s
theorem Wl.Good.lu{x:Wl}{M:Nat}(h:x.Good M)(i:Nat):(x.lu i).2.Good M:=by
 unfold Wl.lu;cases hl:x.net[i]? with
 | none=>exact h
 | some l=>
   have fM:=h.net.all l (List.mem_of_getElem? hl);have Ic:=h.nb l (List.mem_of_getElem? hl);obtain⟨f,t,m⟩:=l;dsimp only at fM Ic ⊢;split;·exact h
   ·split
    ·next ht=>
     have hr:=h.rp t ht;obtain⟨w1,w2⟩:=hr.wf.recv (f:Int) fM.gd;obtain⟨t1,t2⟩:=hr.tb.recv (f:Int) Ic.1;exact ((h.del i).rF (i:=t) ⟨w1,Rp.Wb hr.sm _ _,t1⟩).XA ht w2 t2
    ·next ht=>
     have Mz:t<x.nn:=fM.t;obtain⟨A,rfl⟩:∃A,t=x.nr+A:=⟨t-x.nr,by omega⟩;have hA:A<x.na:=by unfold Wl.nn at Mz;omega
     rw[Nat.add_sub_cancel_left];obtain⟨K,hf⟩:=Ic.2 (by show x.nr<=x.nr+A;omega);have Tn:=h.ag A hA;split;·exact (h.del i).jQ ⟨Tn.wf.took (by rw[Tn.ti.f9];exact hf) (Tn.ti.of _),Tn.sm.took _ _ _,Tn.ti.took hf⟩
     ·exact (h.del i).jQ Tn
set_option maxRecDepth 100000
set_option maxHeartbeats 1000000
def M7(w:G)(A A2:aU)(c c2:Nat)(l m:List I3)(D D2:aV)(hI:In w D 3 A l.length (fP l))(KL:In w D2 3 A2 m.length (fP m))(hn:l.length+m.length<=1048576):dF N 103 #[Y A l.length c,Y A2 m.length c2] w λe O=>∃A3,e=b5 (Y A3 (S7 (l++m)).length (S7 (l++m)).length)∧In O (λb=>(w:Nat)<=b∧b<(O:Nat)) 3 A3 (S7 (l++m)).length (fP (S7 (l++m)))∧Grow w O:=by have ga:=dZ w (.cells #[Y A l.length c,Y A2 m.length c2] 81);have hC:=Gf (w.alloc (.cells #[Y A l.length c,Y A2 m.length c2] 81)) (w:Nat) A A2 c c2 l m (eL.made w _ _) D D2 (hI.grow ga) (KL.grow ga) hn;obtain⟨n,HN⟩:=az (l.length:Nat);obtain⟨k,HK⟩:=az (m.length:Nat);obtain⟨lm,HLM⟩:=az (l++m);rw[<-HLM.out];obtain⟨u,HU⟩:=az (S7 lm);rw[<-HU.out];rw[<-HN.out,<-HK.out] at hC ga ⊢;rw[<-HN.out,<-HK.out] at hn;go_in;go_wp2_with fail;refine hC.mono ?_;rintro e w1 ⟨v1,rfl,W,eO⟩;have a4T:=ga.trans eO;have W:=W.mono (V':=λb=>(w:Nat)<=b∧b<(w1:Nat)) λb hb=>⟨bA ga.size hb.1,hb.2⟩;rw[show fP l++fP m=fP lm by rw[HLM.out];simp[fP],show n+k=lm.length by rw[HLM.out,bd,HN.out,HK.out]] at W;have L:=Nz w1 _ v1 lm W (by rw[HLM.out,bd,<-HN.out,<-HK.out];omega);go_wp2_with fail;refine L.mono ?_;rintro e w2 ⟨rfl,l2,hp,hs,ig,kI⟩;have vO:Grow w w2:=Below.trans a4T (kI.below (B:=(w:Nat)) (λb hb=>hb.1) a4T.size);have Dc:l2.length=lm.length:=hp.length_eq;have hK:=Ea w2 _ v1 l2 ig (by rw[Dc,HLM.out,bd,<-HN.out,<-HK.out];omega);rw[a00 hp (List.pairwise_iff_getElem.2 λi j hi hj o7=>hs i j hi hj o7)] at hK;clear Dc;rw[<-HU.out] at hK;have jo:=kI.size;go_wp2_with fail;refine hK.mono ?_;rintro e w3 ⟨v3,rfl,kj,nx⟩;have a8C:Grow w w3:=Below.trans vO (nx.below (B:=(w:Nat)) (λb hb=>hb.1) vO.size);obtain⟨A3,c3,rfl,Tw,tP,Ud⟩:=kj.kB;have hP:=NB w3 A3 u.length c3 tP;go_wp2_with fail;refine hP.mono ?_;rintro e w4 ⟨rfl,rfl⟩;go_wp2;go_ret;exact⟨A3,rfl,Tw.mono λb hb=>⟨hb.1,bu hb.2 (bA jo nx.size)⟩,a8C⟩
def rJ(v:E)(l:List I3):ei:=λw U=>∃A c,v=Y A l.length c∧In w U 3 A l.length (fP l)
def rJ.framed(v:E)(l:List I3):eQ (rJ v l):=λ_ _ _ ⟨A,c,h,hI⟩ K=>⟨A,c,h,hI.keep λb hb _=>K b hb⟩
def a09(l:aQ):List E:=l.map λn:Nat=>Value.int .u64 (n:Int)
def sj(s:Nat)(v:E×E×E)(x:ja):List Bl:=[.c s 166 #[v.1,v.2.1,v.2.2],.o (rJ v.1 x.ak),.o (rJ v.2.1 x.rf),.o (fT 42 1 v.2.2 x.rd.length (a09 x.rd))]
def An(s:Nat)(v:E×E×E)(x:ja):qD (sj s v x):=⟨trivial,rJ.framed _ _,rJ.framed _ _,fT.framed _ _ _ _ _,trivial⟩
def g9(s:Nat)(x:ja):ei:=λw V=>∃v,dU (qv (sj s v x)) w V
theorem g9.framed(s:Nat)(x:ja):eQ (g9 s x):=λw O V ⟨v,h⟩ K=>⟨v,dU.framed _ (f_ (An s v x)) w O V h K⟩
section
variable{s:Nat}{x:ja}
theorem g9.opn(h:St V w0 (.o (g9 s x)::l) w):∃v,St V w0 (sj s v x++l) w:=St.opn h λ_ ⟨v,h⟩=>⟨v,h,An _ _ _⟩
theorem g9.cls{v:E×E×E}(h:St V w0 (sj s v x++l) w):St V w0 (.o (g9 s x)::l) w:=h.cls (g9.framed _ _) λ_ hM=>⟨v,hM⟩
end
def a8D:Elem N 109 42 1 8 (ae ah 0):=⟨Tryz.underlying109,info_parts aw,rfl,by decide,by decide⟩
def GZ(w:G)(D:aV)(s:Nat)(x:ja)(a:Ac)(e:Ev)(X:x.len<=1000000)(hs:x.Ok):Lw N D 44 #[s,aZ (jz a),aZ (li e)] [.o (g9 s x)] (λ(_:Unit)en=>en=b5 (a_ #[])) (λ_=>[.o (g9 s (x.add a.k e))]) w:=by
 obtain⟨R,HR⟩:=az (x.add a.k e);rw[<-HR.out];intro V hM hV;obtain⟨v,fY⟩:=g9.opn (St.begin_ hM (λb hb=>(hV b hb).1) ⟨g9.framed _ _,trivial⟩);obtain⟨v1,v2,v3⟩:=v;unfold jz li;obtain⟨k,aa,ab,an,aS⟩:=a;obtain⟨why,nd,co,⟨i1,i2,i3⟩,n,bag⟩:=e;dsimp only at HR ⊢;obtain⟨y,wa,HY,HA,eC⟩:=fY.new' #[J k,J aa,J ab,J an,aX aS] 75;obtain⟨z,wb,HZ,HB,ec⟩:=eC.new' #[J why,J nd,J co,J i1,J i2,J i3,ae ah n,J bag] 77;have hc:=ec.facts;simp only[sj,fE] at hc;have TJ:Hid (z=(w:Nat)+1):=Q (by rw[HZ.out,HA.out];simp);by_cases K:k≠2∨why≠0
 ·have kf:R=x:=by rw[HR.out];exact aA K
  rw[kf];have hb:(k != 2)=true∨((k != 2)=false∧(why != 0)=true):=by
   by_cases Z:k=2;·exact .inr ⟨by simp[Z],by simp;rcases K with h|h;exact absurd Z h;exact h⟩
   ·exact .inl (by simp[Z])
  replace K:=Q K;have tJ:∃_:Unit,True∧dU (qv [.o (g9 s x)]) wb (ju V w wb)∧dP V w wb:=by obtain⟨r1,r2⟩:=(g9.cls (l:=[]) (ec.drop.drop)).fin;exact⟨(),trivial,r1,r2⟩
  obtain⟨_,_,r1,r2⟩:=tJ;rcases hb with hb|⟨hb,nu⟩
  ·go_in
   go_wp2_with fail;rw[<-TJ.out,<-HY.out,<-HA.out,<-HB.out];refine bodyPost_ret (results_none rfl _ _ _) rfl ?_;exact⟨(),rfl,r1,r2⟩
  ·go_in
   go_wp2_with fail;rw[<-TJ.out,<-HY.out,<-HA.out,<-HB.out];refine bodyPost_ret (results_none rfl _ _ _) rfl ?_;exact⟨(),rfl,r1,r2⟩
 ·have Ir:k=2:=by
   by_cases h:k=2;·exact h
   ·exact absurd (.inl h) K
  have hww:why=0:=by
   by_cases h:why=0;·exact h
   ·exact absurd (.inr h) K
  subst Ir hww
  have kf:R=if co=1∨co=2 then { x with ak:=nY (i1,i2,i3) x.ak } else if co=3 then { x with rf:=nY (i1,i2,i3) x.rf } else if co=8 then { x with rd:=x.rd++[n] } else x:=by rw[HR.out];exact aB K
  clear K HR
  by_cases jb:co=1∨co=2
  ·rw[aA jb] at kf
   replace kf:=Q kf
   have hb:(co == 1)=true∨((co == 1)=false∧(co == 2)=true):=by
    rcases jb with rfl|rfl
    ·exact .inl rfl
    ·exact .inr ⟨rfl,rfl⟩
   replace jb:=Q jb
   obtain⟨U,⟨A1,c1,HV1,OB⟩,_⟩:=ec.own.see 3 rfl
   obtain rfl:v1=Y A1 x.ak.length c1:=HV1
   have gU:∀b O,St V w (.c z 77 #[(),J nd,J co,J i1,J i2,J i3,ae ah n,J bag]::.c y 75 #[J 2,J aa,J ab,J an,aX aS]::.c s 166 #[Y A1 x.ak.length c1,v2,v3]::b) O->O.cell? (s,0)=some (Y A1 x.ak.length c1)∧O.cell? (z,3)=some (J i1)∧O.cell? (z,4)=some (J i2)∧O.cell? (z,5)=some (J i3):=λb O h=>
    ⟨h.facts.2.2.1.1 0,h.facts.1.1 3,h.facts.1.1 4,h.facts.1.1 5⟩
   rcases hb with hb|⟨hb,nu⟩
   all_goals
    go_in
    go_wp2_with fail
    rw[<-TJ.out,<-HY.out,<-HA.out,<-HB.out]
    have eZ:=ec.grow (Grow.refl _).drew
    have eN:=gU _ _ eZ
    refine dO rfl ?_
    refine fV (λO=>O.cell? (s,0)=some (Y A1 x.ak.length c1)∧O.cell? (z,3)=some (J i1)∧O.cell? (z,4)=some (J i2)∧O.cell? (z,5)=some (J i3)) [9,10,11] 12 rfl [0,1,2,3,4,5,6] ?_
    iterate 7 (refine ff rfl eN (λw1 ⟨I,Z,T,h4⟩=>aM) ?_)
    refine fG 7 [] rfl ?_
    obtain⟨y3,wc,Xv,HC,SD⟩:=ec.new' #[J i1,J i2,J i3] 37
    go_wp2_with fail
    rw[<-HC.out,<-Xv.out]
    have eh:=SD.grow (Grow.refl _).drew
    have lx:=gU _ _ (eh.dT 0 rfl)
    have xr:In wc.drew (λb=>b=y3) 3 (some (y3,0)) [((i1,i2,i3):I3)].length (fP [(i1,i2,i3)]):=(eh.blk 0 rfl).kB (size:=3) (n:=1) rfl
    obtain⟨U2,⟨A1',c1',a0a,KL⟩,_⟩:=eh.own.see 4 rfl
    obtain⟨rfl,rfl⟩:A1=A1'∧c1=c1':=by injection a0a with a b c;exact⟨a,c⟩
    have hxa:x.ak.length+1<=1048576:=by unfold ja.len at X;omega
    have hU:=M7 wc.drew A1 (some (y3,0)) c1 1 x.ak [(i1,i2,i3)] U2 (λb=>b=y3) KL xr hxa
    rw[LZ hs.ak] at hU
    refine⟨λ_=>lx,?_⟩
    refine fG 8 [] rfl ?_
    go_wp2_with fail
    refine hU.mono ?_
    rintro e w3 ⟨A3,rfl,Tw,jU⟩
    have eU:=eh.join (rJ.framed (Y A3 (nY (i1,i2,i3) x.ak).length (nY (i1,i2,i3) x.ak).length) (nY (i1,i2,i3) x.ak)) jU ⟨A3,_,rfl,Tw⟩ (λb hb=>hb)
    have mL:=gU _ _ ((eU.dT 0 rfl).dT 0 rfl)
    go_wp2_with fail
    refine⟨λ_=>mL,?_⟩
    refine gx 9 rfl aw ?_
    obtain⟨q,HQ⟩:=az (nY (i1,i2,i3) x.ak)
    rw[<-HQ.out] at eU ⊢
    have f3:=eU.facts.2.2.2.1
    go_wp2_with fail
    have eI:=(((((eU.put 4 rfl 0 (Y A3 q.length q.length)).dT 5 rfl).dT 3 rfl).dT 2 rfl).dT 1 rfl).front 1 rfl
    have eS:=g9.cls (x:={ x with ak:=q }) (v:=(Y A3 q.length q.length,v2,v3)) (l:=[]) eI
    have hRq:R={ x with ak:=q }:=by rw[kf.out,HQ.out]
    rw[<-hRq] at eS
    obtain⟨r1,r2⟩:=eS.fin
    refine bodyPost_end (results_none rfl _ _ _) rfl ?_
    exact⟨rfl,r1,r2⟩
  ·by_cases iM:co=3
   ·rw[aB jb,aA iM] at kf
    replace kf:=Q kf
    subst iM
    obtain⟨U,⟨A1,c1,HV1,OB⟩,_⟩:=ec.own.see 4 rfl
    obtain rfl:v2=Y A1 x.rf.length c1:=HV1
    have gU:∀b O,St V w (.c z 77 #[(),J nd,J 3,J i1,J i2,J i3,ae ah n,J bag]::.c y 75 #[J 2,J aa,J ab,J an,aX aS]::.c s 166 #[v1,Y A1 x.rf.length c1,v3]::b) O->O.cell? (s,1)=some (Y A1 x.rf.length c1)∧O.cell? (z,3)=some (J i1)∧O.cell? (z,4)=some (J i2)∧O.cell? (z,5)=some (J i3):=λb O h=>
     ⟨h.facts.2.2.1.1 1,h.facts.1.1 3,h.facts.1.1 4,h.facts.1.1 5⟩
    have sH:((3:Int) == 1)=false:=rfl
    have nu:((3:Int) == 2)=false:=rfl
    have P1:((3:Int) == 3)=true:=rfl
    ·
     go_in
     go_wp2_with fail
     rw[<-TJ.out,<-HY.out,<-HA.out,<-HB.out]
     have eZ:=ec.grow (Grow.refl _).drew
     have eN:=gU _ _ eZ
     refine dO rfl ?_
     refine fV (λO=>O.cell? (s,1)=some (Y A1 x.rf.length c1)∧O.cell? (z,3)=some (J i1)∧O.cell? (z,4)=some (J i2)∧O.cell? (z,5)=some (J i3)) [9,10,11] 12 rfl [0,1,2,3,4,5,6] ?_
     iterate 7 (refine ff rfl eN (λw1 ⟨I,Z,T,h4⟩=>aM) ?_)
     refine fG 7 [] rfl ?_
     obtain⟨y3,wc,Xv,HC,SD⟩:=ec.new' #[J i1,J i2,J i3] 37
     go_wp2_with fail
     rw[<-HC.out,<-Xv.out]
     have eh:=SD.grow (Grow.refl _).drew
     have lx:=gU _ _ (eh.dT 0 rfl)
     have xr:In wc.drew (λb=>b=y3) 3 (some (y3,0)) [((i1,i2,i3):I3)].length (fP [(i1,i2,i3)]):=(eh.blk 0 rfl).kB (size:=3) (n:=1) rfl
     obtain⟨U2,⟨A1',c1',a0a,KL⟩,_⟩:=eh.own.see 5 rfl
     obtain⟨rfl,rfl⟩:A1=A1'∧c1=c1':=by injection a0a with a b c;exact⟨a,c⟩
     have hxa:x.rf.length+1<=1048576:=by unfold ja.len at X;omega
     have hU:=M7 wc.drew A1 (some (y3,0)) c1 1 x.rf [(i1,i2,i3)] U2 (λb=>b=y3) KL xr hxa
     rw[LZ hs.rf] at hU
     refine⟨λ_=>lx,?_⟩
     refine fG 8 [] rfl ?_
     go_wp2_with fail
     refine hU.mono ?_
     rintro e w3 ⟨A3,rfl,Tw,jU⟩
     have eU:=eh.join (rJ.framed (Y A3 (nY (i1,i2,i3) x.rf).length (nY (i1,i2,i3) x.rf).length) (nY (i1,i2,i3) x.rf)) jU ⟨A3,_,rfl,Tw⟩ (λb hb=>hb)
     have mL:=gU _ _ ((eU.dT 0 rfl).dT 0 rfl)
     go_wp2_with fail
     refine⟨λ_=>mL,?_⟩
     refine gx 9 rfl aw ?_
     obtain⟨q,HQ⟩:=az (nY (i1,i2,i3) x.rf)
     rw[<-HQ.out] at eU ⊢
     have f3:=eU.facts.2.2.2.1
     go_wp2_with fail
     have eI:=(((((eU.put 4 rfl 1 (Y A3 q.length q.length)).dT 6 rfl).dT 3 rfl).dT 2 rfl).dT 1 rfl).perm ((List.Perm.swap _ _ _).trans (List.Perm.cons _ (List.Perm.swap _ _ _)))
     have eS:=g9.cls (x:={ x with rf:=q }) (v:=(v1,Y A3 q.length q.length,v3)) (l:=[]) eI
     have hRq:R={ x with rf:=q }:=by rw[kf.out,HQ.out]
     rw[<-hRq] at eS
     obtain⟨r1,r2⟩:=eS.fin
     refine bodyPost_end (results_none rfl _ _ _) rfl ?_
     exact⟨rfl,r1,r2⟩
   ·rw[aB jb,aB iM] at kf
    have sH:(co == 1)=false:=by simp;exact λh=>jb (.inl h)
    have nu:(co == 2)=false:=by simp;exact λh=>jb (.inr h)
    have P1:(co == 3)=false:=by simp;exact iM
    by_cases hk8:co=8
    ·rw[aA hk8] at kf
     replace kf:=Q kf
     subst hk8
     clear jb iM
     obtain⟨A1,c1,HV1,_,_⟩:=fT.oJ ec 5 rfl
     obtain rfl:v3=Y A1 x.rd.length c1:=HV1
     have gU:∀b O,St V w (.c z 77 #[(),J nd,J 8,J i1,J i2,J i3,ae ah n,J bag]::.c y 75 #[J 2,J aa,J ab,J an,aX aS]::.c s 166 #[v1,v2,Y A1 x.rd.length c1]::b) O->O.cell? (s,2)=some (Y A1 x.rd.length c1)∧O.cell? (z,6)=some (ae ah n):=λb O h=>
      ⟨h.facts.2.2.1.1 2,h.facts.1.1 6⟩
     go_in
     go_wp2_with fail
     rw[<-TJ.out,<-HY.out,<-HA.out,<-HB.out]
     have eZ:=ec.grow (Grow.refl _).drew
     have eN:=gU _ _ eZ
     refine dO rfl ?_
     refine fV (λO=>O.cell? (s,2)=some (Y A1 x.rd.length c1)∧O.cell? (z,6)=some (ae ah n)) [9,10,11] 12 rfl [0,1,2,3,4,5,6] ?_
     iterate 7 (refine ff rfl eN (λw1 ⟨I,Z⟩=>aM) ?_)
     refine fG 7 [] rfl ?_
     obtain⟨y3,wc,Xv,HC,SD⟩:=ec.new' #[ae ah n] 42
     go_wp2_with fail
     rw[<-HC.out,<-Xv.out]
     have eh:=SD.grow (Grow.refl _).drew
     refine⟨λ_=>gU _ _ (eh.dT 0 rfl),?_⟩
     refine fG 8 [] rfl ?_
     have XL:x.rd.length<=1000000:=by unfold ja.len at X;omega
     refine iw a8D rfl (.tmp 49) (.tmp 52) rfl rfl (eh.front 6 rfl) (A:=some (y3,0)) (m:=1) (c:=1) (news:=[ae ah n]) rfl (In.reads ((eh.blk 0 rfl).kB (size:=1) (n:=1) rfl)) (by simp[Value.oneCell']) ap ?_
     intro v' w8 fK
     obtain⟨A8,c8,rfl,hc8,hm8⟩:=fT.oJ fK 0 rfl
     refine wpList_nil ⟨λ_=>gU _ _ ((fK.dT 0 rfl).dT 0 rfl),?_⟩
     refine gx 9 rfl aw ?_
     have f3:=fK.facts.2.2.2.1
     go_wp2_with fail
     have eI:=(((fK.put 4 rfl 2 (Y A8 (x.rd.length+1) c8)).dT 3 rfl).dT 2 rfl).dT 1 rfl
     have eI:=eI.perm (l':=[.c s 166 #[v1,v2,Y A8 (x.rd.length+1) c8],.o (rJ v1 x.ak),.o (rJ v2 x.rf),.o (fT 42 1 (Y A8 (x.rd.length+1) c8) (x.rd.length+1) (a09 x.rd++[ae ah n]))]) ((List.Perm.swap _ _ _).trans (List.Perm.cons _ ((List.Perm.swap _ _ _).trans (List.Perm.cons _ (List.Perm.swap _ _ _)))))
     have eS:=g9.cls (x:={ x with rd:=x.rd++[n] }) (v:=(v1,v2,Y A8 (x.rd.length+1) c8)) (l:=[]) (eI.cast (l':=_) (by unfold sj a09;rw[bM,bd];rfl))
     rw[<-kf.out] at eS
     obtain⟨r1,r2⟩:=eS.fin
     refine bodyPost_end (results_none rfl _ _ _) rfl ?_
     exact⟨rfl,r1,r2⟩
    ·rw[aB hk8] at kf
     subst kf
     have hb8:(co == 8)=false:=by simp;exact hk8
     replace jb:=Q jb
     replace iM:=Q iM
     replace hk8:=Q hk8
     obtain⟨r1,r2⟩:=(g9.cls (l:=[]) (ec.drop.drop)).fin
     go_in
     go_wp2_with fail
     rw[<-TJ.out,<-HY.out,<-HA.out,<-HB.out]
     refine bodyPost_end (results_none rfl _ _ _) rfl ?_
     exact⟨(),rfl,r1,r2⟩
set_option maxRecDepth 100000
set_option maxHeartbeats 1000000
section
def SE(h:St V w0 l w)(i:Nat)(hi:l[i]?=some (.o (iP aeu x))):∃P:nt,P.w=aeu∧qK P x∧S4 P x w∧∃U,Ne.fm P.g (x.nn:Int) (x.net.map kE) x.cut w U:=by obtain⟨P,hP,hQ,L⟩:=iP.opn (h.front i hi);obtain⟨U,hN,_⟩:=L.own.see 4 rfl;exact⟨P,hP,hQ,j8 L hQ,U,hN⟩
def M8(h:St V w0 l w)(i:Nat)(hi:l[i]?=some (.o (iP aeu x))):∃g:Nat,dF N 37 #[aeu] w (λe O=>e=b5 ((g:E))∧w=O)∧dF N 89 #[g] w (λe O=>e=b5 (J x.net.length)∧w=O):=by obtain⟨P,rfl,hQ,hF,U,hN⟩:=SE h i hi;have:=M0 w P.g _ _ _ U hN;rw[bj] at this;exact⟨P.g,VR hF,this⟩
end
def tG(v:E):Option Nat->ei
 | none=>λ_ _=>v=.pointer none
 | some n=>λw U=>∃(y:Nat)(cs:aP),v=.pointer (some ⟨y,6,none⟩)∧cs[6]?=some (.int .u64 (n:Int))∧U y∧eL w y 77 cs
theorem tG.framed(v:E):∀o,eQ (tG v o)
 | none=>λ_ _ _ h _=>h
 | some _=>λ_ _ _ ⟨y,cs,I,Z,T,h4⟩ K=>⟨y,cs,I,Z,T,(K y T).trans h4⟩
structure Dr where
 (n:Nat) (x:Wl) (s:ja) (v:Option Nat)
def Dr.step(d:Dr)(node:Int):Dr:=⟨d.n+1,if (d.x.lu 0).1.why=26 then (d.x.lu 0).2.del 0 else (d.x.lu 0).2,d.s.add 2 { (d.x.lu 0).1 with bag:=((d.x.lu 0).2.net.length:Int) },if (d.x.lu 0).1.why≠26∧(d.x.lu 0).1.code=8∧(d.x.lu 0).1.node=node then some (d.x.lu 0).1.n else d.v⟩
def fh(node:Int):Nat->Dr->Dr
 | 0,d=>d
 | k+1,d=>if d.x.net.length=0 then d else fh node k (d.step node)
theorem a8F(h:m.Gd):m.n<18446744073709551616:=by
 cases h with
 | ans tg c n _ _ T=>exact T
 | _=>exact (by decide:(0:Nat)<18446744073709551616)
theorem XC(x:Wl)(h:x.Good M)(i:Nat):(x.lu i).1.n<18446744073709551616:=by
 have h0:(0:Nat)<18446744073709551616:=by decide
 unfold Wl.lu;cases hl:x.net[i]? with
 | none=>exact h0
 | some l=>
   have hn:=a8F (h.net.all l (List.mem_of_getElem? hl)).gd;dsimp only;repeat' split
   all_goals first|exact h0|exact hn
theorem m8(node:Int){d:Dr}(h:d.x.net.length=0):∀k,fh node k d=d
 | 0=>rfl
 | _+1=>aA h
theorem Wj(h:(x.lu i).1.why=26):(x.lu i).2=x:=by
 revert h;unfold Wl.lu;cases x.net[i]? with
 | none=>exact λ_=>rfl
 | some l=>
   dsimp only;repeat' split
   all_goals first|exact λ_=>rfl|exact λh=>absurd h (show ¬ (0:Int)=26 by decide)
def M9(w:G)(D:aV)(aeu s M most:Nat)(x:Wl)(t:ja)(X:x.Good M)(ht:t.Ok)(hl:t.len+most<=1000000)(node:Int):Lw N D 93 #[aeu,s,J most,J node] [.o (iP aeu x),.o (g9 s t)]
  (λv e=>e=b5 (a_ #[J ((fh node most ⟨0,x,t,none⟩).n:Int),v])) (λv=>[.o (tG v (fh node most ⟨0,x,t,none⟩).v),.o (iP aeu (fh node most ⟨0,x,t,none⟩).x),.o (g9 s (fh node most ⟨0,x,t,none⟩).s)]) w:=by
 obtain⟨R,HR⟩:=az (fh node most ⟨0,x,t,none⟩)
 rw[<-HR.out]
 intro V hM hV
 have fY:=St.begin_ hM (λb hb=>(hV b hb).1) ⟨iP.framed _ _,g9.framed _ _,trivial⟩
 have fY:=fY.join (tG.framed (.pointer none) none) (Grow.refl _) (U:=λ_=>False) rfl (λ_ h=>h.elim)
 go_in
 go_wp2_with fail
 go_loopw [10,11] (λv n wr=>∃(k:Nat)(d:Dr),n=J k∧(k<=most∧d.n=k∧d.s.len<=t.len+k)∧Hid (R=fh node (most-k) d)∧(d.x.Good M∧d.s.Ok)∧St V w [.o (tG v d.v),.o (iP aeu d.x),.o (g9 s d.s)] wr) (λ_ n _=>most-(intOf n).toNat)
 case atStart=>exact⟨0,⟨0,x,t,none⟩,rfl,⟨bo _,rfl,bh _⟩,HR,⟨X,ht⟩,fY⟩
 case round=>
  obtain⟨k,d,rfl,⟨jb,iM,B9⟩,HRd,⟨hdx,vb⟩,L⟩:=hrel
  obtain⟨g,hNt,OG⟩:=M8 L 1 rfl
  obtain⟨aev,HL⟩:=az (d.x.net.length)
  rw[<-HL.out] at OG
  by_cases BJ:k<most
  ·have c1:decide ((k:Int)<(most:Int))=true:=aC ap
   by_cases h0:aev=0
   ·subst h0
    go_wp2_with fail
    refine hNt.mono ?_
    rintro e w1 ⟨rfl,rfl⟩
    go_wp2_with fail
    refine OG.mono ?_
    rintro e w1 ⟨rfl,rfl⟩
    go_wp2
    go_ret2
    rw[HRd.out,m8 node HL.out.symm,iM]
    obtain⟨r1,r2⟩:=L.fin
    exact⟨_,rfl,r1,r2⟩
   ·have c2:decide ((0:Int)<(aev:Int))=true:=aC ap
    go_wp2_with fail
    refine hNt.mono ?_
    rintro e w1 ⟨rfl,rfl⟩
    go_wp2_with fail
    refine OG.mono ?_
    rintro e w1 ⟨rfl,rfl⟩
    have eC:=L.new #[(),(),(),(),""] 75
    go_wp2_with (refine er eC 0 rfl 75 _ _ rfl 0 rfl [J 2,(),(),(),""] rfl (bf rfl) rfl aw (jz ⟨2,0,0,0,⟨#[]⟩⟩) rfl rfl ?_;clear eC;intro w2 ec;refine stay ?_)
    refine dN ?_
    obtain⟨y,HY⟩:=az ((wr:Nat))
    rw[<-HY.out] at ec ⊢
    have hDo:jD aeu d.x ⟨2,0,0,0,⟨#[]⟩⟩ (d.x.lu 0).1 (d.x.lu 0).2:=a08 hdx (i:=0) (by rw[<-HL.out];omega) 0 0 ⟨#[]⟩
    have hn5:=XC d.x hdx 0
    obtain⟨ev,HE⟩:=az ({ (d.x.lu 0).1 with bag:=((d.x.lu 0).2.net.length:Int) })
    obtain⟨x5,HX⟩:=az ((d.x.lu 0).2)
    have SF:Lw N (λ_=>False) 33 #[aeu,aZ (jz ⟨2,0,0,0,⟨#[]⟩⟩)] [.o (iP aeu d.x)] (λ(_:Unit)e=>e=b5 (aZ (li ev))) (λ_=>[.o (iP aeu x5)]) w2:=by rw[HE.out,HX.out];exact hDo w2 _
    have hC:=ec.at_ 2 rfl (λ_=>iP.framed _ _) ec.no SF
    go_wp2_with (refine d_ rfl 75 _ rfl _ rfl (ec.blk 0 rfl) Tryz.underlying75 aw ?_)
    refine hC.mono ?_
    rintro e w3 ⟨_,rfl,eh⟩
    clear hC SF hDo
    have eh:St V w [.c y 75 (jz ⟨2,0,0,0,⟨#[]⟩⟩),.o (tG u10 d.v),.o (iP aeu x5),.o (g9 s d.s)] w3:=eh
    have eU:=eh.new aH 77
    clear ec L
    go_wp2_with (refine er eU 0 rfl 77 _ _ rfl 0 rfl [J ev.why,J ev.node,J ev.code,J ev.id.1,J ev.id.2.1,J ev.id.2.2,ae ah ev.n,J ev.bag] rfl (bf rfl) rfl aw (li ev) rfl rfl ?_;clear eU;intro w5 eI;refine stay ?_)
    refine dN ?_
    obtain⟨z,HZ⟩:=az ((w3:Nat))
    rw[<-HZ.out] at eI ⊢
    clear eh
    have eI:St V w [.c z 77 (li ev),.c y 75 (jz ⟨2,0,0,0,⟨#[]⟩⟩),.o (tG u10 d.v),.o (iP aeu x5),.o (g9 s d.s)] w5:=eI
    have Xl:=eI.at_ 4 rfl (λ_=>g9.framed _ _) eI.no (GZ w5 (λ_=>False) s d.s ⟨2,0,0,0,⟨#[]⟩⟩ ev ap vb)
    go_wp2_with (first|(refine d_ rfl 75 _ rfl _ rfl (eI.blk 1 rfl) Tryz.underlying75 aw ?_)|(refine d_ rfl 77 _ rfl _ rfl (eI.blk 0 rfl) bZ aw ?_))
    refine Xl.mono ?_
    rintro e w6 ⟨_,rfl,eS⟩
    clear Xl eI
    obtain⟨s6,HS6⟩:=az (d.s.add 2 ev)
    have eS:St V w [.c z 77 (li ev),.c y 75 (jz ⟨2,0,0,0,⟨#[]⟩⟩),.o (tG u10 d.v),.o (iP aeu x5),.o (g9 s s6)] w6:=by rw[HS6.out];exact eS
    have f0:=eS.facts.1.1
    have e0:w6.cell? (z,0)=some (J ev.why):=f0 0
    have e1:w6.cell? (z,1)=some (J ev.node):=f0 1
    have e2:w6.cell? (z,2)=some (J ev.code):=f0 2
    have iD:Hid (d.step node=⟨k+1,if ev.why=26 then x5.del 0 else x5,s6,if ev.why≠26∧ev.code=8∧ev.node=node then some ev.n else d.v⟩):=Q (by rw[HS6.out,HX.out,HE.out,<-iM];rfl)
    have xS:x5.Good M:=by rw[HX.out];exact hdx.lu 0
    have hgs:s6.Ok:=by rw[HS6.out];exact vb.add 2 (by rw[HE.out];exact hn5)
    have tQ:s6.len<=t.len+(k+1):=by rw[HS6.out];have:=d.s.oh 2 ev;omega
    have hRn:Hid (R=fh node (most-(k+1)) (d.step node)):=Q (by rw[HRd.out,show most-k=(most-(k+1))+1 by omega];exact aB (by rw[<-HL.out];exact h0))
    have OJ:ev.why=26->x5=d.x:=λh=>by rw[HX.out];exact Wj (by rw[HE.out] at h;exact h)
    have a40:d.x.net.length=aev:=HL.out.symm
    clear HX HE HS6 hn5 f0
    by_cases hw:ev.why=26
    ·have b0:(ev.why == 26)=true:=by simp[hw]
     rw[aA hw,aB (λh=>h.1 hw)] at iD
     have XD:jD aeu x5 ⟨3,0,0,0,⟨#[]⟩⟩ { Ev.zero with why:=0 } (x5.del 0):=Wi (i:=0) (by rw[OJ hw,a40];omega) 0 0 ⟨#[]⟩
     have hC:=eS.at_ 3 rfl (λ_=>iP.framed _ _) eS.no (XD w6 (λ_=>False))
     replace hw:=Q hw
     clear OJ a40
     unfold jz at hC
     dsimp only at hC
     go_wp2_with fail
     refine hC.mono ?_
     rintro e w7 ⟨_,rfl,fQ⟩
     clear hC XD
     go_wp2_with fail
     refine⟨⟨k+1,d.step node,by go_num,⟨by omega,by rw[iD.out],by rw[iD.out];exact tQ⟩,hRn,by rw[iD.out];exact⟨xS.del 0,hgs⟩,?_⟩,by simp[intOf];omega⟩
     rw[iD.out]
     exact fQ.drop.drop
    ·have b0:(ev.why == 26)=false:=by simp[hw]
     rw[aB hw] at iD
     by_cases h8:ev.code=8∧ev.node=node
     ·rw[aA ⟨hw,h8⟩] at iD
      replace hw:=Q hw
      have b1:(ev.code == 8)=true:=by simp[h8.1]
      have b2:(ev.node == node)=true:=by simp[h8.2]
      replace h8:=Q h8
      go_wp2_with fail
      have fQ:=St.cls (S:=tG (((z,6):E)) (some ev.n)) (a:=[.c z 77 (li ev)]) ((eS.dT 2 rfl).dT 1 rfl) (tG.framed _ _) λU hM=>by obtain⟨I,Z⟩:=yE hM 0 rfl;exact⟨z,li ev,rfl,rfl,I,Z⟩
      refine⟨⟨k+1,d.step node,by go_num,⟨by omega,by rw[iD.out],by rw[iD.out];exact tQ⟩,hRn,by rw[iD.out];exact⟨xS,hgs⟩,?_⟩,by simp[intOf];omega⟩
      rw[iD.out]
      exact fQ
     ·rw[aB (λh=>h8 h.2)] at iD
      replace hw:=Q hw
      have hb:(ev.code == 8)=false∨((ev.code == 8)=true∧(ev.node == node)=false):=by
       by_cases h:ev.code=8;·exact .inr ⟨by simp[h],by simp;exact λZ=>h8 ⟨h,Z⟩⟩
       ·exact .inl (by simp[h])
      replace h8:=Q h8
      have fin:St V w [.o (tG u10 (d.step node).v),.o (iP aeu (d.step node).x),.o (g9 s (d.step node).s)] w6:=by rw[iD.out];exact eS.drop.drop
      rcases hb with b1|⟨b1,b2⟩
      all_goals
       go_wp2_with fail
       exact⟨⟨k+1,d.step node,by go_num,⟨by omega,by rw[iD.out],by rw[iD.out];exact tQ⟩,hRn,by rw[iD.out];exact⟨xS,hgs⟩,fin⟩,by simp[intOf];omega⟩
  ·have c1:decide ((k:Int)<(most:Int))=false:=aD ap
   go_wp2
   go_ret2
   have e0:most-k=0:=by omega
   rw[HRd.out,e0]
   show ∃i,Ending.returned (a_ #[J k,u10])=b5 (a_ #[J d.n,i])∧_
   rw[iM]
   obtain⟨r1,r2⟩:=L.fin
   exact⟨_,rfl,r1,r2⟩
set_option maxRecDepth 100000
set_option maxHeartbeats 1000000
def EB(w:G)(D:aV)(aeu s M most:Nat)(x:Wl)(t:ja)(X:x.Good M)(ht:t.Ok)(hl:t.len+most<=1000000):Lw N D 40 #[aeu,s,J most] [.o (iP aeu x),.o (g9 s t)]
  (λ(_:Unit)e=>e=b5 (J ((fh (-1) most ⟨0,x,t,none⟩).n:Int))) (λ_=>[.o (iP aeu (fh (-1) most ⟨0,x,t,none⟩).x),.o (g9 s (fh (-1) most ⟨0,x,t,none⟩).s)]) w:=by
 intro V hM hV
 have fY:=St.begin_ hM (λb hb=>(hV b hb).1) ⟨iP.framed _ _,g9.framed _ _,trivial⟩
 have hD:=St.call (a:=[.o (iP aeu x),.o (g9 s t)]) (a':=λv=>[.o (tG v (fh (-1) most ⟨0,x,t,none⟩).v),.o (iP aeu (fh (-1) most ⟨0,x,t,none⟩).x),.o (g9 s (fh (-1) most ⟨0,x,t,none⟩).s)]) (b:=[]) fY (λv=>⟨tG.framed _ _,iP.framed _ _,g9.framed _ _,trivial⟩) fY.no (M9 w (λ_=>False) aeu s M most x t X ht hl (-1))
 generalize fh (-1) most ⟨0,x,t,none⟩=R at hD ⊢
 go_in
 go_wp2_with fail
 refine hD.mono ?_
 rintro e w2 ⟨v,rfl,ec⟩
 go_wp2
 go_ret
 obtain⟨r1,r2⟩:=ec.drop.fin
 exact⟨(),rfl,r1,r2⟩
inductive l4(aeu:Nat):Wl->ja->List Ac->Bool->Wl->ja->Prop
 | nil (x:Wl) (s:ja):l4 aeu x s [] true x s
 | ok {x x' x2:Wl} {s s2:ja} {a:Ac} {l:List Ac} {ev:Ev} {b:Bool} (h:jD aeu x a ev x') (h0:ev.why=0) (hn:ev.n<18446744073709551616) (r:l4 aeu x' (s.add a.k { ev with bag:=(x'.net.length:Int) }) l b x2 s2):l4 aeu x s (a::l) b x2 s2
 | bad {x x':Wl} {s:ja} {a:Ac} {l:List Ac} {ev:Ev} (h:jD aeu x a ev x') (h0:ev.why≠0) (hn:ev.n<18446744073709551616):l4 aeu x s (a::l) false x' (s.add a.k { ev with bag:=(x'.net.length:Int) })
def Kv(a:Ac):List E:=[J a.k,J a.a,J a.b,J a.n,aX a.s]
def SG(w:G)(D:aV)(aeu s bk:Nat)(x x2:Wl)(t t2:ja)(l:List Ac)(b:Bool)(hr:l4 aeu x t l b x2 t2)(ht:t.Ok)(hl:t.len+l.length<=1000000):Lw N D 32 #[aeu,s,Y (some (bk,0)) l.length l.length] [.o (iP aeu x),.o (g9 s t),.c bk 75 (l.flatMap Kv).toArray]
  (λ(_:Unit)e=>e=b5 (aY b)) (λ_=>[.o (iP aeu x2),.o (g9 s t2),.c bk 75 (l.flatMap Kv).toArray]) w:=by
 obtain⟨cs,HC⟩:=az ((l.flatMap Kv).toArray)
 obtain⟨n,HN⟩:=az (l.length)
 rw[<-HC.out,<-HN.out]
 intro V hM hV
 have fY:=St.begin_ hM (λb hb=>(hV b hb).1) ⟨iP.framed _ _,g9.framed _ _,trivial,trivial⟩
 go_in
 go_wp2_with fail
 go_loopw [12] (λi wr=>∃(j:Nat)(y:Wl)(u:ja),i=J j∧(j<=n∧u.len<=t.len+j)∧l4 aeu y u (l.drop j) b x2 t2∧u.Ok∧St V w [.o (iP aeu y),.o (g9 s u),.c bk 75 cs] wr) (λi _=>n-(intOf i).toNat)
 case atStart=>exact⟨0,x,t,rfl,⟨bo _,bh _⟩,hr,ht,fY⟩
 case round=>
  obtain⟨j,y,u,rfl,⟨hj,hul⟩,hru,hu,L⟩:=hrel
  by_cases xf:j<n
  ·have xg:j<l.length:=by rw[<-HN.out];exact xf
   have c1:decide ((j:Int)<(n:Int))=true:=aC ap
   rw[bR xg] at hru
   have hf:∀i,i<5->wr.cell? ⟨bk,j*5+i,none⟩=(Kv l[j])[i]?:=λi hi=>by have:=L.facts.1.1 (j*5+i);rw[this,HC.out];rw[List.getElem?_toArray];exact flat_get Kv 5 (λ_=>rfl) l j i xg hi
   have f0:wr.cell? ⟨bk,j*5,none⟩=_:=hf 0 ap
   have f1:=hf 1 ap
   have f2:=hf 2 ap
   have f3:=hf 3 ap
   have f4:=hf 4 ap
   clear hf
   generalize l[j]=a at hru f0 f1 f2 f3 f4
   obtain⟨k,aa,ab,an,aS⟩:=a
   simp only[Kv,List.getElem?_cons_zero,List.getElem?_cons_succ] at f0 f1 f2 f3 f4
   have eC:=L.new #[(),(),(),(),""] 75
   go_wp2_with (refine er eC 0 rfl 75 _ _ rfl 0 rfl [J k,J aa,J ab,J an,aX aS] rfl (bf rfl) rfl aw (jz ⟨k,aa,ab,an,aS⟩) rfl rfl ?_;clear eC;intro w2 ec;refine stay ?_)
   refine dN ?_
   clear f0 f1 f2 f3 f4
   obtain⟨y0,HY⟩:=az ((wr:Nat))
   rw[<-HY.out] at ec ⊢
   obtain⟨ev,y5,u5,hDo,hn5,HU5,o0⟩:∃(ev:Ev)(y5:Wl)(u5:ja),jD aeu y ⟨k,aa,ab,an,aS⟩ ev y5∧ev.n<18446744073709551616∧Hid (u5=u.add k { ev with bag:=(y5.net.length:Int) })∧((ev.why=0∧l4 aeu y5 u5 (l.drop (j+1)) b x2 t2)∨(ev.why≠0∧Hid (b=false∧x2=y5∧t2=u5))):=by
    cases hru with
    | ok h h0 hn r=>exact⟨_,_,_,h,hn,Q rfl,.inl ⟨h0,r⟩⟩
    | bad h h0 hn=>exact⟨_,_,_,h,hn,Q rfl,.inr ⟨h0,Q ⟨rfl,rfl,rfl⟩⟩⟩
   clear hru
   obtain⟨e5,HE⟩:=az ({ ev with bag:=(y5.net.length:Int) })
   have SF:Lw N (λ_=>False) 33 #[aeu,aZ (jz ⟨k,aa,ab,an,aS⟩)] [.o (iP aeu y)] (λ(_:Unit)e=>e=b5 (aZ (li e5))) (λ_=>[.o (iP aeu y5)]) w2:=by rw[HE.out];exact hDo w2 _
   have hw5:e5.why=ev.why:=by rw[HE.out]
   have hn5:e5.n<18446744073709551616:=by rw[HE.out];exact hn5
   rw[<-HE.out] at HU5
   have hC:=ec.at_ 1 rfl (λ_=>iP.framed _ _) ec.no SF
   go_wp2_with (refine d_ rfl 75 _ rfl _ rfl (ec.blk 0 rfl) Tryz.underlying75 aw ?_)
   refine hC.mono ?_
   rintro e w3 ⟨_,rfl,eh⟩
   clear hC SF hDo
   have eh:St V w [.c y0 75 (jz ⟨k,aa,ab,an,aS⟩),.o (iP aeu y5),.o (g9 s u),.c bk 75 cs] w3:=eh
   have eU:=eh.new aH 77
   clear ec L
   go_wp2_with (refine er eU 0 rfl 77 _ _ rfl 0 rfl [J e5.why,J e5.node,J e5.code,J e5.id.1,J e5.id.2.1,J e5.id.2.2,ae ah e5.n,J e5.bag] rfl (bf rfl) rfl aw (li e5) rfl rfl ?_;clear eU;intro w5 eI;refine stay ?_)
   refine dN ?_
   obtain⟨z,HZ⟩:=az ((w3:Nat))
   rw[<-HZ.out] at eI ⊢
   clear eh
   have eI:St V w [.c z 77 (li e5),.c y0 75 (jz ⟨k,aa,ab,an,aS⟩),.o (iP aeu y5),.o (g9 s u),.c bk 75 cs] w5:=eI
   have Xl:=eI.at_ 3 rfl (λ_=>g9.framed _ _) eI.no (GZ w5 (λ_=>False) s u ⟨k,aa,ab,an,aS⟩ e5 ap hu)
   go_wp2_with (first|(refine d_ rfl 75 _ rfl _ rfl (eI.blk 1 rfl) Tryz.underlying75 aw ?_)|(refine d_ rfl 77 _ rfl _ rfl (eI.blk 0 rfl) bZ aw ?_))
   refine Xl.mono ?_
   rintro e w6 ⟨_,rfl,eS⟩
   clear Xl eI
   have eS:St V w [.c z 77 (li e5),.c y0 75 (jz ⟨k,aa,ab,an,aS⟩),.o (iP aeu y5),.o (g9 s u5),.c bk 75 cs] w6:=by rw[HU5.out];exact eS
   have e0:w6.cell? (z,0)=some (J e5.why):=eS.facts.1.1 0
   rw[hw5] at e0
   have hgs:u5.Ok:=by rw[HU5.out];exact hu.add k hn5
   have tQ:u5.len<=t.len+(j+1):=by rw[HU5.out];have:=u.oh k e5;omega
   clear hw5 HE HU5
   rcases o0 with ⟨hw,hr5⟩|⟨hw,hb⟩
   ·have b0:(ev.why != 0)=false:=by simp[hw]
    replace hw:=Q hw
    go_wp2_with fail
    exact⟨⟨j+1,y5,u5,by go_num,⟨by omega,tQ⟩,hr5,hgs,eS.drop.drop⟩,by simp[intOf];omega⟩
   ·have b0:(ev.why != 0)=true:=by simp[hw]
    replace hw:=Q hw
    go_wp2
    go_ret
    obtain⟨sH,nu,P1⟩:=hb.out
    rw[sH,nu,P1]
    obtain⟨r1,r2⟩:=eS.drop.drop.fin
    exact⟨(),rfl,r1,r2⟩
  ·have c1:decide ((j:Int)<(n:Int))=false:=aD ap
   rw[cT (by rw[<-HN.out];omega)] at hru
   cases hru
   go_wp2
   go_ret
   obtain⟨r1,r2⟩:=L.fin
   exact⟨(),rfl,r1,r2⟩
set_option maxRecDepth 100000
set_option maxHeartbeats 1000000
def G_(a n:Int)(oW:aR):List Ac:=[⟨9,a,0,n,oW⟩,⟨10,a,0,0,⟨#[]⟩⟩,⟨1,a,0,1,⟨#[]⟩⟩]
def a0b(w:G)(D:aV)(aeu s M:Nat)(x x2:Wl)(t t2:ja)(a n:Int)(oW:aR)(hr:l4 aeu x t (G_ a n oW) true x2 t2)(ht:t.Ok)(Mz:t2.Ok)(me:x2.Good M)(hl:t.len<=999000)(Dc:t2.len<=999000):Lw N D 28 #[aeu,s,J a,aX oW,J n] [.o (iP aeu x),.o (g9 s t)]
  (λ(_:Unit)e=>e=b5 (aY true)) (λ_=>[.o (iP aeu (fh (-1) 400 ⟨0,x2,t2,none⟩).x),.o (g9 s (fh (-1) 400 ⟨0,x2,t2,none⟩).s)]) w:=by
 obtain⟨R,HR⟩:=az (fh (-1) 400 ⟨0,x2,t2,none⟩)
 rw[<-HR.out]
 intro V hM hV
 have fY:=St.begin_ hM (λb hb=>(hV b hb).1) ⟨iP.framed _ _,g9.framed _ _,trivial⟩
 obtain⟨y,wa,HY,HA,eC⟩:=fY.new' #[J 9,J a,(),J n,aX oW,J 10,J a,(),(),"",J 1,J a,(),J 1,""] 75
 have eC:St V w [.o (iP aeu x),.o (g9 s t),.c y 75 ((G_ a n oW).flatMap Kv).toArray] wa:=eC.perm (bg (l₁:=[_]))
 have W:=St.call (b:=[]) eC (a':=λ(_:Unit)=>[.o (iP aeu x2),.o (g9 s t2),.c y 75 ((G_ a n oW).flatMap Kv).toArray]) (λ_=>⟨iP.framed _ _,g9.framed _ _,trivial,trivial⟩) eC.no (SG wa (λ_=>False) aeu s y x x2 t t2 (G_ a n oW) true hr ht (by show t.len+3<=_;omega))
 have W:dF N 32 #[aeu,s,Y (some (y,0)) 3 3] wa _:=W
 go_in
 go_wp2_with fail
 rw[<-HA.out,<-HY.out]
 refine W.mono ?_
 rintro e w2 ⟨_,rfl,ec⟩
 clear W eC fY
 have ec:St V w [.o (iP aeu x2),.o (g9 s t2)] w2:=ec.dT 2 rfl
 have hD:=St.call (a:=[.o (iP aeu x2),.o (g9 s t2)]) (b:=[]) ec (a':=λ(_:Unit)=>[.o (iP aeu (fh (-1) 400 ⟨0,x2,t2,none⟩).x),.o (g9 s (fh (-1) 400 ⟨0,x2,t2,none⟩).s)]) (λ_=>⟨iP.framed _ _,g9.framed _ _,trivial⟩) ec.no (EB w2 (λ_=>False) aeu s M 400 x2 t2 me Mz ap)
 rw[<-HR.out] at hD
 have hD:dF N 40 #[aeu,s,J 400] w2 _:=hD
 go_wp2_with fail
 refine hD.mono ?_
 rintro e w3 ⟨_,rfl,eh⟩
 go_wp2
 go_ret
 obtain⟨r1,r2⟩:=eh.fin
 exact⟨(),rfl,r1,r2⟩
end Go.Proofs.YtpeepcmdehhbgaaGreatDoor
section
namespace Go.Proofs.YtpeepcmdehhbgaaGreatDoor
open Go.RowKit Go.Hop V
namespace Wl
def gY(x:Wl)(i:Nat):Wl:=(x.rF i ((x.rp i).lead).1).send i ((x.rp i).lead).2
def mH(x:Wl)(i n:Nat):Wl:=x.mZ i (x.rp i).ticks n
def jR(x:Wl)(i n:Nat):Wl:=(x.jQ i ((x.ag i).gv n []).1).send (x.nr+i) ((x.ag i).gv n []).2
def gi(x:Wl)(i:Nat):Wl:=x.jQ i (x.ag i).cut.1
def gZ(x:Wl)(i:Nat)(d:Dl):Wl:=x.jQ i ((x.ag i).gn d).1
def oB(x:Wl)(i:Nat)(s:aR):Wl:=(x.jQ i ((x.ag i).look s).1).send (x.nr+i) [((x.ag i).last,gH (k_ s (x.ag i).node ((x.ag i).tag+1)))]
theorem Good.gY(h:x.Good M){i:Nat}(hi:i<x.nr):(x.gY i).Good (M+1):=by
 have hr:=h.rp i hi;have hn:=h.n;have WE:x.nr<=8:=by have:=hn.2;unfold Wl.nn at this;omega
 obtain⟨w1,w2⟩:=hr.wf.lead;obtain⟨t1,t2⟩:=hr.tb.lead hn.1;have I:=h.mono (Nat.le_succ M);exact (I.rF (i:=i) (y:=(x.rp i).lead.1) ⟨w1,Rp.W9 hr.sm,t1.mono ap⟩).XA hi w2 (t2.mono ap)
theorem Good.mH(h:x.Good M){i:Nat}(hi:i<x.nr)(n:Nat):(x.mH i n).Good M:=by have hr:=h.rp i hi;exact⟨h.n,h.rp,h.ag,h.net.mZ (by unfold Wl.nn;omega) hr.wf.ticks n,h.nb.mZ hi hr.tb.ticks n⟩
theorem Good.jR(h:x.Good M)(hM:M<=1048576){i:Nat}(hi:i<x.na){n:Nat}(hn:n<=1024):(x.jR i n).Good (M+1):=by
 have ha:=h.ag i hi;have I:=h.mono (Nat.le_succ M);have qI:x.nr+i<8:=by have:=h.n.2;unfold Wl.nn at this;omega
 have a8I:1<=x.nr+i:=by have:=h.n.1;omega
 have Nk:=ha.ti.tm.tag;obtain⟨g1,g2,_⟩:=Ag.Aj n (x.ag i) [] (by rw[ha.ti.node];exact qI) ha.wf.bk ap jT.nil;obtain⟨t1,t2⟩:=Ag.Ti.gv a8I n (x.ag i) _ [] ha.wf.bk (by rw[ha.ti.node];exact qI) ap jT.nil ha.ti uX.nil;exact (I.jQ (i:=i) (y:=((x.ag i).gv n []).1) ⟨ha.wf.gv n [],Ag.Sm.gv n [] ha.sm,t1.mono ap⟩).XB hi g1 t2
theorem Good.gi(h:x.Good M){i:Nat}(hi:i<x.na):(x.gi i).Good M:=by have ha:=h.ag i hi;exact h.jQ ⟨ha.wf.cut,ha.sm.cut,(Ag.oA.cut _).ti ha.ti⟩
theorem Good.gZ(h:x.Good M){i:Nat}(hi:i<x.na){d:Dl}(hd:d.2<=18446744073709551615):(x.gZ i d).Good M:=by have ha:=h.ag i hi;exact h.jQ ⟨ha.wf.gn d hd,ha.sm.gn d,(Ag.oA.gn _ d).ti ha.ti⟩
def Wm{s:aR}(hp:aev.gl s=0)(qI:nd<8)(ht:t<=9223372036854775807):(gH (k_ s nd t)).Gd:=Ms.Gd.ask (k_ s nd t) ⟨⟨⟨dm _,by show (nd:Int)<8;omega⟩,dm _,by show (t:Int)<=_;omega⟩,.inr ⟨rfl,rfl,rfl,rfl,rfl,rfl,hp,jM hp⟩⟩
theorem Good.oB(h:x.Good M)(hM:M<=1048576){i:Nat}(hi:i<x.na){s:aR}(hp:aev.gl s=0):(x.oB i s).Good (M+1):=by
 have ha:=h.ag i hi;have I:=h.mono (Nat.le_succ M);have Nk:=ha.ti.tm.tag;have qI:x.nr+i<8:=by have:=h.n.2;unfold Wl.nn at this;omega
 have e:((x.ag i).look s).1=(x.ag i).next (0,0,0):=by unfold Ag.look;rw[aB ap]
 unfold Wl.oB;rw[e];refine (I.jQ (i:=i) (y:=(x.ag i).next (0,0,0)) ⟨ha.wf.next _,ha.sm,(ha.ti.next (.inl rfl)).mono ap⟩).XB hi (jT.one (Wm hp (by rw[ha.ti.node];exact qI) ap)) ?_;intro q hq;rw[List.mem_singleton.1 hq];exact⟨rfl,dm _,by have:=ha.ti.last;show ((x.ag i).last:Int)<(x.nr:Int);omega⟩
def Good.SI(h:x.Good M)(hM:M<=1048576)(hi:i<x.nr)(b n:Int)(s:aR):jD aeu x ⟨8,(i:Int),b,n,s⟩ { Ev.zero with node:=(i:Int) } (x.gY i):=Wg hi (h.rp i hi).wf (by have:=(h.rp i hi).tb.t;omega) b n s
def Good.Wn(h:x.Good M)(hi:i<x.nr)(b:Int)(s:aR)(hn:1<=n∧n<=1024):jD aeu x ⟨1,(i:Int),b,(n:Int),s⟩ { Ev.zero with node:=(i:Int) } (x.mH i n):=Ku hi (h.rp i hi).wf b s hn
def Good.Ma(h:x.Good M)(hM:M<=1048576)(hi:i<x.na)(b:Int)(s:aR)(hn:1<=n∧n<=1024):jD aeu x ⟨1,((x.nr+i:Nat):Int),b,(n:Int),s⟩ { Ev.zero with node:=((x.nr+i:Nat):Int) } (x.jR i n):=Kt hi (h.ag i hi).wf (h.ag i hi).ti.tm ap b s hn
def Good.EC(h:x.Good M)(hi:i<x.na)(b n:Int)(s:aR):jD aeu x ⟨10,((x.nr+i:Nat):Int),b,n,s⟩ { Ev.zero with code:=((x.ag i).cut.2.length:Int) } (x.gi i):=SC hi (h.ag i hi).wf b n s
def Good.H1(h:x.Good M)(hi:i<x.na)(b:Int){s:aR}(hs:s.size<=1000000)(hn:n<=9223372036854775807):jD aeu x ⟨9,((x.nr+i:Nat):Int),b,(n:Int),s⟩ { Ev.zero with why:=((x.ag i).gn (s,n)).2 } (x.gZ i (s,n)):=Ou hi (h.ag i hi).wf b hs hn
def Good.a0c(h:x.Good M)(hM:M<=1048576)(hi:i<x.na)(b n:Int){s:aR}(hp:aev.gl s=0):jD aeu x ⟨13,((x.nr+i:Nat):Int),b,n,s⟩ Ev.zero (x.oB i s):=Wh hi (h.ag i hi).wf b n hp (by have:=(h.ag i hi).ti.tm.tag;omega)
end Wl
end Go.Proofs.YtpeepcmdehhbgaaGreatDoor
end
namespace Go.Proofs.YtpeepcmdehhbgaaGreatDoor
open RowKit Hop V
theorem a0d(x:Wl)(i:Nat):(x.lu i).2.nr=x.nr∧(x.lu i).2.na=x.na:=by
 unfold Wl.lu;cases x.net[i]? with
 | none=>exact⟨rfl,rfl⟩
 | some l=>
   dsimp only;repeat' split
   all_goals exact⟨rfl,rfl⟩
def Dr.a0e(d:Dr)(node:Int):(d.step node).x.nr=d.x.nr∧(d.step node).x.na=d.x.na:=by
 have h:=a0d d.x 0;unfold Dr.step;dsimp only;split;·exact h
 ·exact h
def Dr.Ow{d:Dr}(h:d.x.Good M)(node:Int):(d.step node).x.Good M:=by
 unfold Dr.step;dsimp only;split;·exact (h.lu 0).del 0
 ·exact h.lu 0
def Dr.step_ok{d:Dr}(h:d.x.Good M)(hs:d.s.Ok)(node:Int):(d.step node).s.Ok:=hs.add 2 (e:={ (d.x.lu 0).1 with bag:=((d.x.lu 0).2.net.length:Int) }) (XC d.x h 0)
theorem oC(node:Int){M:Nat}:∀(k:Nat)(d:Dr),d.x.Good M->d.s.Ok->(fh node k d).x.Good M∧(fh node k d).s.Ok∧(fh node k d).s.len<=d.s.len+k∧(fh node k d).x.nr=d.x.nr∧(fh node k d).x.na=d.x.na
 | 0,d,h,hs=>⟨h,hs,bh _,rfl,rfl⟩
 | k+1,d,h,hs=>by
   unfold fh;split;·exact⟨h,hs,by omega,rfl,rfl⟩
   ·obtain⟨a,b,c,e,f⟩:=oC node k (d.step node) (d.Ow h node) (d.step_ok h hs node)
    have I:=d.a0e node;have Z:(d.step node).s.len<=d.s.len+1:=ja.oh _ _ _;exact⟨a,b,by omega,e.trans I.1,f.trans I.2⟩
abbrev WS:=Wl×ja
@[irreducible] def xH(p:WS):WS:=((fh (-1) 400 ⟨0,p.1,p.2,none⟩).x,(fh (-1) 400 ⟨0,p.1,p.2,none⟩).s)
def agW(p:WS)(i:Nat):WS:=xH ((p.1.gi i).jR i 48,p.2)
def Kw(l:aQ)(p:WS):WS:=l.foldl agW p
def xI(p:WS):WS:=Kw (bF p.1.na) p
def pJ:Nat->WS->WS
 | 0,p=>p
 | k+1,p=>pJ k (xI p)
def jJ(n:Nat)(p:WS):WS:=xH ((pJ n (xH (p.1.gY 0,p.2))).1.mH 0 1,(pJ n (xH (p.1.gY 0,p.2))).2)
def Ag.idle(a:Ag):Bool:=decide (a.b.eW.length=0)&&decide (a.queued.length=0)
def Wl.idle(x:Wl):Bool:=(bF x.na).all λi=>(x.ag i).idle
structure ip(p:WS)(nr na M aev:Nat):Prop where
 good:p.1.Good M
 ok:p.2.Ok
 len:p.2.len<=aev
 nr:p.1.nr=nr
 na:p.1.na=na
namespace ip
variable{p:WS}
theorem mono{M' L':Nat}(h:ip p nr na M aev)(hM:M<=M')(hL:aev<=L'):ip p nr na M' L':=⟨h.good.mono hM,h.ok,bA h.len hL,h.nr,h.na⟩
def dr4(h:ip p nr na M aev):ip (xH p) nr na M (aev+400):=by obtain⟨a,b,c,e,f⟩:=oC (-1) 400 ⟨0,p.1,p.2,none⟩ h.good h.ok;unfold xH;exact⟨a,b,by have:=h.len;have:(fh (-1) 400 ⟨0,p.1,p.2,none⟩).s.len<=p.2.len+400:=c;show (fh (-1) 400 ⟨0,p.1,p.2,none⟩).s.len<=_;omega,e.trans h.nr,f.trans h.na⟩
def lead(h:ip p nr na M aev):ip (p.1.gY 0,p.2) nr na (M+1) aev:=⟨h.good.gY h.good.n.1,h.ok,h.len,h.nr,h.na⟩
theorem mH(h:ip p nr na M aev)(n:Nat):ip (p.1.mH 0 n,p.2) nr na M aev:=⟨h.good.mH h.good.n.1 n,h.ok,h.len,h.nr,h.na⟩
def batch(h:ip p nr na M aev)(hi:i<na):ip (p.1.gi i,p.2) nr na M aev:=⟨h.good.gi (by rw[h.na];exact hi),h.ok,h.len,h.nr,h.na⟩
theorem jR(h:ip p nr na M aev)(hM:M<=1048576){i n:Nat}(hi:i<na)(hn:n<=1024):ip (p.1.jR i n,p.2) nr na (M+1) aev:=⟨h.good.jR hM (by rw[h.na];exact hi) hn,h.ok,h.len,h.nr,h.na⟩
def look(h:ip p nr na M aev)(hM:M<=1048576){i:Nat}(hi:i<na){s:aR}(hp:Go.Proofs.YtpeepcmdehhbgaaGreatDoor.aev.gl s=0):ip (p.1.oB i s,p.2) nr na (M+1) aev:=⟨h.good.oB hM (by rw[h.na];exact hi) hp,h.ok,h.len,h.nr,h.na⟩
def stA(h:ip p nr na M aev)(hM:M<=1048576)(hi:i<na):ip (agW p i) nr na (M+1) (aev+400):=by have I:=dr4 (p:=((p.1.gi i).jR i 48,p.2)) ((h.batch hi).jR hM hi am);generalize hq:((p.1.gi i).jR i 48,p.2)=q at I;unfold agW;rw[hq];exact I
theorem stL:∀(l:aQ){p:WS}{M aev:Nat},ip p nr na M aev->M+l.length<=1048576->(∀i∈l,i<na)->ip (Kw l p) nr na (M+l.length) (aev+400*l.length)
 | [],_,_,_,h,_,_=>h
 | i::l,p,M,aev,h,hM,hl=>by
   rw[bC] at hM ⊢;have:=stL l (h.stA ap (hl i (by simp))) ap λj hj=>hl j (by simp[hj]);exact this.mono ap ap
def few(h:ip p nr na M aev):na<=7:=by have:=h.good.n;unfold Wl.nn at this;have:=h.na;omega
def stR(h:ip p nr na M aev)(hM:M+7<=1048576):ip (xI p) nr na (M+7) (aev+2800):=by
 have h7:=h.few;have hl:(bF p.1.na).length=na:=by rw[di,h.na]
 exact (stL (bF p.1.na) h (by rw[hl];omega) λi hi=>by rw[<-h.na];exact List.mem_range.1 hi).mono (by rw[hl];omega) (by rw[hl];omega)
theorem a42:∀(k:Nat){p:WS}{M aev:Nat},ip p nr na M aev->M+7*k<=1048576->ip (pJ k p) nr na (M+7*k) (aev+2800*k)
 | 0,_,_,_,h,_=>h
 | k+1,p,M,aev,h,hM=>(a42 k (h.stR ap) ap).mono ap ap
def settle(h:ip p nr na M aev)(hn:n<=64)(hM:M<=1000000):ip (jJ n p) nr na (M+500) (aev+200000):=((a42 n (h.lead.dr4) ap).mH 1).dr4.mono ap ap
end ip
set_option maxRecDepth 100000
set_option maxHeartbeats 1000000
def Wl.Av(x:Wl)(i:Nat):x.jQ i (x.ag i)=x:=by
 have:at_ x.ag i (x.ag i)=x.ag:=funext λj=>by
  unfold at_;split;·next h=>rw[h]
  ·rfl
 unfold Wl.jQ;rw[this]
section
variable{s:Nat}{p:WS}
abbrev nZ(aeu s:Nat)(p:WS):List Bl:=[.o (iP aeu p.1),.o (g9 s p.2)]
def qo(aeu s:Nat)(p:WS):qD (nZ aeu s p):=⟨iP.framed _ _,g9.framed _ _,trivial⟩
def Aw(h:St V w0 (nZ aeu s p++l) w)(hp:ip p nr na M aev)(hL:aev<=999000):∃n:Int,dF N 40 #[aeu,s,J 400] w λe O=>e=b5 (J n)∧St V w0 (nZ aeu s (xH p)++l) O:=by
 have hD:=St.call (a:=nZ aeu s p) (a':=λ(_:Unit)=>nZ aeu s (xH p)) h (λ_=>qo _ _ _) h.no (by have:=EB w (λ_=>False) aeu s M 400 p.1 p.2 hp.good hp.ok (by have:=hp.len;omega);unfold xH;exact this)
 exact⟨_,hD.mono λe O ⟨_,I,Z⟩=>⟨I,Z⟩⟩
def D6{a:Ac}{ev:Ev}{x':Wl}(h:St V w0 (nZ aeu s p++l) w)(hd:jD aeu p.1 a ev x'):dF N 33 #[aeu,aZ (jz a)] w λe O=>e=b5 (aZ (li { ev with bag:=(x'.net.length:Int) }))∧St V w0 (nZ aeu s (x',p.2)++l) O:=by have:=St.at_ h 0 rfl (λ_=>iP.framed _ _) h.no (hd w (λ_=>False));exact this.mono λe O ⟨_,I,Z⟩=>⟨I,Z⟩
def ED(h:St V w0 (nZ aeu s p++l) w):∃P:nt,P.w=aeu∧qK P p.1∧S4 P p.1 w:=by obtain⟨P,a,b,c,_⟩:=SE h 0 rfl;exact⟨P,a,b,c⟩
def SJ(h:St V w0 (nZ aeu s p++l) w):dF N 90 #[aeu] w λe O=>e=b5 (J p.1.na)∧w=O:=by obtain⟨P,rfl,_,hF⟩:=ED h;exact Kf hF
def Mb(h:St V w0 (nZ aeu s p++l) w):dF N 91 #[aeu] w λe O=>e=b5 (J p.1.nr)∧w=O:=by obtain⟨P,rfl,_,hF⟩:=ED h;exact Et hF
end
def SK(w:G)(D:aV)(aeu s nr na M aev n:Nat)(p:WS)(hp:ip p nr na M aev)(hM:M<=1000000)(hL:aev<=700000)(hn:n<=64):Lw N D 34 #[aeu,s,J n] (nZ aeu s p)
  (λ(_:Unit)e=>e=b5 (aY (jJ n p).1.idle)) (λ_=>nZ aeu s (jJ n p)) w:=by
 obtain⟨F,HF⟩:=az (jJ n p)
 have hF:=hp.settle hn hM
 rw[<-HF.out] at hF ⊢
 have h7:=hp.few
 have XU:1<=nr∧nr<=8:=by have:=hp.good.n;unfold Wl.nn at this;have:=hp.nr;omega
 intro V sB hV
 have fY:St V w (nZ aeu s p++[]) w:=St.begin_ sB (λb hb=>(hV b hb).1) (qo _ _ _)
 have TL:=D6 fY (hp.good.SI ap hp.good.n.1 0 0 ⟨#[]⟩)
 unfold jz at TL
 dsimp only at TL
 have T8:∀ts t w,(Builtin.min_ ts t #[J n,J 64]).run N w=.ok (J n) w:=by intro ts t w;rw[run_min_int2];split<;>first|rfl|(congr 2;omega)
 have Db:∀ts t w,(Builtin.max_ ts t #[(),J n]).run N w=.ok (J n) w:=by intro ts t w;rw[run_max_int2];split<;>first|rfl|(congr 2;omega)
 go_in
 go_wp2_with fail
 refine TL.mono ?_
 rintro e w1 ⟨rfl,eC⟩
 have Mq:=hp.lead
 obtain⟨p1,HP1⟩:=az ((p.1.gY 0,p.2):WS)
 have HF:Hid (F=xH ((pJ n (xH p1)).1.mH 0 1,(pJ n (xH p1)).2)):=Q (by rw[HP1.out];exact HF.out)
 rw[<-HP1.out] at Mq eC
 clear TL fY HP1
 obtain⟨m1,hD1⟩:=Aw eC Mq ap
 go_wp2_with fail
 refine hD1.mono ?_
 rintro e w2 ⟨rfl,ec⟩
 clear hD1 eC
 have EM:=Mq.dr4
 obtain⟨p2,HP2⟩:=az (xH p1:WS)
 rw[<-HP2.out] at EM ec
 have HF:Hid (F=xH ((pJ n p2).1.mH 0 1,(pJ n p2).2)):=Q (by rw[HP2.out];exact HF.out)
 clear HP2
 obtain⟨pn,HPN⟩:=az (pJ n p2:WS)
 rw[<-HPN.out] at HF
 go_wp2_with fail
 go_loopw [22] (λi wr=>∃(r:Nat)(q:WS),i=J r∧r<=n∧Hid (pn=pJ (n-r) q)∧ip q nr na (M+1+7*r) (aev+400+2800*r)∧St V w (nZ aeu s q++[]) wr) (λi _=>n-(intOf i).toNat)
 case atStart=>exact⟨0,p2,rfl,bo _,HPN,EM,ec⟩
 case round=>
  obtain⟨r,q,rfl,hr,HQ,hq,L⟩:=hrel
  by_cases hrn:r<n
  ·have c1:decide ((r:Int)<(n:Int))=true:=aC ap
   have hAg:=SJ L
   rw[hq.na] at hAg
   have HQ:Hid (pn=pJ (n-(r+1)) (Kw (bF na) q)):=Q (by rw[HQ.out,show n-r=(n-(r+1))+1 by omega];show pJ _ (Kw (bF q.1.na) q)=_;rw[hq.na])
   go_wp2_with fail
   refine hAg.mono ?_
   rintro e w3 ⟨rfl,rfl⟩
   go_wp2_with fail
   obtain⟨qe,HQE⟩:=az (Kw (bF na) q:WS)
   rw[<-HQE.out] at HQ
   clear c1 hAg
   go_loopw [26] (λi wr2=>∃(k:Nat)(q2:WS),i=J k∧k<=na∧Hid (qe=Kw ((bF na).drop k) q2)∧ip q2 nr na (M+1+7*r+k) (aev+400+2800*r+400*k)∧St V w (nZ aeu s q2++[]) wr2) (λi _=>na-(intOf i).toNat)
   case atStart=>exact⟨0,q,rfl,bo _,HQE,hq,L⟩
   case round=>
    clear L hq
    obtain⟨k,q2,rfl,K,Z8,E_,ec⟩:=hrel
    by_cases oF:k<na
    ·have c2:decide ((k:Int)<(na:Int))=true:=aC ap
     have yk:IntKind.i64.wrap ((nr:Int)+(k:Int))=((nr+k:Nat):Int):=by rw[IntKind.wrap_i64];omega
     have iM:k<q2.1.na:=by rw[E_.na];exact oF
     have xG:=Mb ec
     have hB:=D6 ec (E_.good.EC iM 0 0 ⟨#[]⟩)
     rw[E_.nr] at xG hB
     unfold jz at hB
     dsimp only at hB
     go_wp2_with fail
     refine xG.mono ?_
     rintro e w4 ⟨rfl,rfl⟩
     go_wp2_with fail
     refine hB.mono ?_
     rintro e w4 ⟨rfl,eh⟩
     clear hB xG ec
     have XY:=E_.batch oF
     obtain⟨q3,HQ3⟩:=az ((q2.1.gi k,q2.2):WS)
     rw[<-HQ3.out] at XY eh
     have hT:=D6 eh (XY.good.Ma ap (by rw[XY.na];exact oF:k<q3.1.na) 0 (n:=48) ⟨#[]⟩ ⟨by decide,by decide⟩)
     rw[XY.nr] at hT
     unfold jz at hT
     dsimp only at hT
     have hT:dF N 33 #[aeu,aZ #[J 1,J ((nr+k:Nat):Int),(),J 48,""]] w4 _:=hT
     go_wp2_with fail
     refine hT.mono ?_
     rintro e w5 ⟨rfl,eU⟩
     clear hT eh
     have hq4:=XY.jR ap oF (n:=48) am
     obtain⟨q4,HQ4⟩:=az ((q3.1.jR k 48,q3.2):WS)
     rw[<-HQ4.out] at hq4 eU
     obtain⟨m4,hD4⟩:=Aw eU hq4 ap
     go_wp2_with fail
     refine hD4.mono ?_
     rintro e w6 ⟨rfl,eI⟩
     go_wp2_with fail
     have hq5:=hq4.dr4
     have eq5:Hid (qe=Kw ((bF na).drop (k+1)) (xH q4)):=Q (by rw[Z8.out,bR (by rw[di];exact oF),List.getElem_range,HQ4.out,HQ3.out];rfl)
     exact⟨⟨k+1,xH q4,by go_num,by omega,eq5,hq5.mono ap ap,eI⟩,by simp[intOf];omega⟩
    ·have c2:decide ((k:Int)<(na:Int))=false:=aD ap
     rw[cT (by rw[di];omega)] at Z8
     have lL:Hid (qe=q2):=Z8
     go_wp2_with fail
     refine⟨⟨r+1,q2,by go_num,by omega,by rw[lL.out] at HQ;exact HQ,E_.mono ap ap,ec⟩,by simp[intOf];omega⟩
  ·have c1:decide ((r:Int)<(n:Int))=false:=aD ap
   have e0:n-r=0:=by omega
   rw[e0] at HQ
   have hpn:Hid (pn=q):=HQ
   rw[hpn.out] at HF
   have hT:=D6 L (hq.good.Wn (hq.good.n.1) 0 (n:=1) ⟨#[]⟩ ⟨by decide,by decide⟩)
   unfold jz at hT
   dsimp only at hT
   have hT:dF N 33 #[aeu,aZ #[J 1,(),(),J 1,""]] wr _:=hT
   clear e0
   go_wp2_with fail
   refine hT.mono ?_
   rintro e w4 ⟨rfl,eh⟩
   clear hT L
   have XY:=hq.mH 1
   obtain⟨q3,HQ3⟩:=az ((q.1.mH 0 1,q.2):WS)
   rw[<-HQ3.out] at XY eh HF
   obtain⟨m4,hD4⟩:=Aw eh XY ap
   rw[<-HF.out] at hD4
   go_wp2_with fail
   refine hD4.mono ?_
   rintro e w6 ⟨rfl,eI⟩
   clear hD4 eh
   have hAg:=SJ eI
   rw[hF.na] at hAg
   go_wp2_with fail
   refine hAg.mono ?_
   rintro e w7 ⟨rfl,rfl⟩
   clear hAg c1
   go_wp2_with fail
   go_loopw [54] (λi wr2=>∃k:Nat,i=J k∧k<=na∧Hid (∀j,j<k->(F.1.ag j).idle=true)∧St V w (nZ aeu s F++[]) wr2) (λi _=>na-(intOf i).toNat)
   case atStart=>exact⟨0,rfl,bo _,Q (λ_ h=>absurd h (Nat.not_lt_zero _)),eI⟩
   case round=>
    clear eI
    obtain⟨k,rfl,K,a43,L⟩:=hrel
    by_cases oF:k<na
    ·have c2:decide ((k:Int)<(na:Int))=true:=aC ap
     have iM:k<F.1.na:=by rw[hF.na];exact oF
     obtain⟨P,hP,hQ,hSo⟩:=iP.opn L
     clear L
     have Tq:=oy (j8 hSo hQ) hQ iM
     rw[hP] at Tq
     unfold ptr at Tq
     go_wp2_with fail
     refine Tq.mono ?_
     rintro e w8 ⟨rfl,rfl⟩
     clear Tq
     obtain⟨m,Hm⟩:=az ((F.1.ag k).b.eW.length)
     have hWt:dF N 92 #[.pointer (some ⟨P.a k,0,none⟩)] wr λe O=>e=b5 (J m)∧St V w (dQ P F.1++([.o (g9 s F.2)]++[])) O:=by refine (m7 (ι:=Unit) (C:=λ_ e=>e=b5 (J m)) (ex:=λ_=>[]) (y:=λ_=>F.1.ag k) hSo iM (λ_=>trivial) (λU p hp kp=>by rw[<-hp,Hm.out];exact RP _ U p (F.1.ag k))).mono ?_;rintro e O ⟨_,I,Z⟩;rw[Wl.Av] at Z;exact⟨I,Z⟩
     have Kx:(F.1.ag k).idle=(decide (m=0)&&decide ((F.1.ag k).queued.length=0)):=by rw[Hm.out];rfl
     have l9:∀b,(F.1.ag k).idle=b->(b=true->Hid (∀j,j<k+1->(F.1.ag j).idle=true))∧(b=false->F.1.idle=false):=λb hb=>⟨λh=>Q λj hj=>by
      by_cases EJ:j=k;·rw[EJ,hb,h]
      ·exact a43.out j ap,λh=>by unfold Wl.idle;rw[List.all_eq_false];exact⟨k,List.mem_range.2 iM,by rw[hb,h];decide⟩⟩
     by_cases tK:m=0
     ·subst tK
      go_wp2_with fail
      refine hWt.mono ?_
      rintro e w9 ⟨rfl,eS⟩
      clear hWt hSo
      obtain⟨nq,Hnq⟩:=az ((F.1.ag k).queued.length)
      rw[<-Hnq.out] at Kx
      have hQu:dF N 48 #[.pointer (some ⟨P.a k,0,none⟩)] w9 λe O=>∃A c,e=b5 (Y A nq c)∧St V w (dQ P F.1++([.o (g9 s F.2)]++[])) O:=by refine (m7 (ι:=E) (C:=λu e=>e=b5 u) (ex:=λu=>[.o (nX (F.1.ag k).node u (F.1.ag k).queued)]) (y:=λ_=>F.1.ag k) eS iM (λ_=>⟨nX.framed _ _ _,trivial⟩) (λU p hp kp=>by rw[<-hp];exact Oa _ U p (F.1.ag k))).mono ?_;rintro e O ⟨u,I,Z⟩;obtain⟨Au,cu,hu,_⟩:=fT.oJ Z 0 rfl;rw[Wl.Av] at Z;exact⟨Au,cu,by rw[I,hu,Hnq.out],Z.drop⟩
      by_cases AV:nq=0
      ·subst AV
       have lK:=(l9 true (by rw[Kx];rfl)).1 rfl
       clear l9 Kx
       go_wp2_with fail
       refine hQu.mono ?_
       rintro e Xr ⟨A,c,rfl,fQ⟩
       go_wp2_with fail
       exact⟨⟨k+1,by go_num,by omega,lK,iP.cls hP hQ fQ⟩,by simp[intOf];omega⟩
      ·have lK:=(l9 false (by rw[Kx];simp[AV])).2 rfl
       clear l9 Kx
       go_wp2_with fail
       refine hQu.mono ?_
       rintro e Xr ⟨A,c,rfl,fQ⟩
       go_wp2
       go_ret
       rw[lK]
       obtain⟨r1,r2⟩:=(iP.cls hP hQ fQ).fin
       exact⟨(),rfl,r1,r2⟩
     ·have lK:=(l9 false (by rw[Kx];simp[tK])).2 rfl
      clear l9 Kx
      go_wp2_with fail
      refine hWt.mono ?_
      rintro e w9 ⟨rfl,eS⟩
      go_wp2
      go_ret
      rw[lK]
      obtain⟨r1,r2⟩:=(iP.cls hP hQ eS).fin
      exact⟨(),rfl,r1,r2⟩
    ·have c2:decide ((k:Int)<(na:Int))=false:=aD ap
     have a4W:F.1.idle=true:=by unfold Wl.idle;rw[List.all_eq_true];intro j hj;have:=List.mem_range.1 hj;exact a43.out j (by rw[hF.na] at this;omega)
     go_wp2
     go_ret
     rw[a4W]
     obtain⟨r1,r2⟩:=L.fin
     exact⟨(),rfl,r1,r2⟩
set_option maxRecDepth 100000
set_option maxHeartbeats 1000000
@[irreducible] def H2(k:Nat)(oW:aR)(p:WS):Dr:=fh ((p.1.nr+k:Nat):Int) 400 ⟨0,p.1.oB k oW,p.2,none⟩
def tH(k:Nat)(oW:aR):Nat->WS->WS×Option Nat
 | 0,p=>(p,none)
 | r+1,p=>if (H2 k oW p).v=none then tH k oW r ((H2 k oW p).x,(H2 k oW p).s) else (((H2 k oW p).x,(H2 k oW p).s),(H2 k oW p).v)
theorem ip.H2{p:WS}{nr na M aer k:Nat}(h:ip p nr na M aer)(hM:M<=1048576)(K:k<na){oW:aR}(hp:aev.gl oW=0):ip ((H2 k oW p).x,(H2 k oW p).s) nr na (M+1) (aer+400):=by have I:=h.look hM K hp;obtain⟨a,b,c,e,f⟩:=oC ((p.1.nr+k:Nat):Int) 400 ⟨0,p.1.oB k oW,p.2,none⟩ I.good I.ok;unfold Go.Proofs.YtpeepcmdehhbgaaGreatDoor.H2;exact⟨a,b,bA c (by have:=I.len;show p.2.len+400<=_;have:p.2.len<=aer:=this;omega),e.trans I.nr,f.trans I.na⟩
theorem ip.tH{k:Nat}{oW:aR}(hp:aev.gl oW=0){nr na:Nat}(K:k<na):∀(r:Nat){p:WS}{M aer:Nat},ip p nr na M aer->M+r<=1048576->ip (tH k oW r p).1 nr na (M+r) (aer+400*r)
 | 0,_,_,_,h,_=>h
 | r+1,p,M,aer,h,hM=>by
   have I:=h.H2 ap K hp;unfold Go.Proofs.YtpeepcmdehhbgaaGreatDoor.tH;split;·exact (ip.tH hp K r I ap).mono ap ap
   ·exact I.mono ap ap
def a47(w:G)(D:aV)(aeu s nr na M aer k:Nat)(p:WS)(hp:ip p nr na M aer)(hM:M<=1000000)(hK:aer<=900000)(K:k<na)(oW:aR)(B8:aev.gl oW=0):Lw N D 35 #[aeu,s,J ((nr+k:Nat):Int),aX oW] (nZ aeu s p)
  (λ(_:Unit)e=>e=b5 (a_ #[ae ah (((tH k oW 8 p).2.getD 0:Nat):Int),aY (tH k oW 8 p).2.isSome])) (λ_=>nZ aeu s (tH k oW 8 p).1) w:=by
 obtain⟨F,HF⟩:=az (tH k oW 8 p)
 rw[<-HF.out]
 have h7:=hp.few
 have XU:1<=nr∧nr<=8:=by have:=hp.good.n;unfold Wl.nn at this;have:=hp.nr;omega
 obtain⟨nd,HND⟩:=az (((nr+k:Nat):Int):Int)
 rw[<-HND.out]
 have yk:IntKind.i64.wrap (nd-(nr:Int))=(k:Int):=by rw[HND.out,IntKind.wrap_i64];omega
 have tS:wrap64 (nd-(nr:Int))=(k:Int):=by rw[HND.out];unfold wrap64;omega
 have hnd0:decide (nd<0)=false:=aD (by rw[HND.out];omega)
 intro V sB hV
 have fY:St V w (nZ aeu s p++[]) w:=St.begin_ sB (λb hb=>(hV b hb).1) (qo _ _ _)
 obtain⟨P,hP,hQ,hFF⟩:=ED fY
 have xG:=Mb fY
 rw[hp.nr] at xG
 have Tq:=oy hFF hQ (i:=k) (by rw[hp.na];exact K)
 rw[hP] at Tq
 unfold ptr at Tq
 go_in
 go_wp2_with fail
 refine xG.mono ?_
 rintro e w1 ⟨rfl,rfl⟩
 go_wp2_with fail
 refine Tq.mono ?_
 rintro e w1 ⟨rfl,rfl⟩
 clear Tq xG hFF yk tS
 go_wp2_with fail
 go_loopw [27] (λi wr=>∃(r:Nat)(q:WS),i=J r∧r<=8∧Hid (F=tH k oW (8-r) q)∧ip q nr na (M+r) (aer+400*r)∧St V w (nZ aeu s q++[]) wr) (λi _=>8-(intOf i).toNat)
 case atStart=>exact⟨0,p,rfl,bo _,HF,hp,fY⟩
 case round=>
  clear fY
  obtain⟨r,q,rfl,hr,HQ,hq,L⟩:=hrel
  by_cases hr8:r<8
  ·have c1:decide ((r:Int)<8)=true:=aC ap
   have hLk:=D6 L (hq.good.a0c ap (i:=k) (by rw[hq.na];exact K) 0 0 B8)
   rw[hq.nr,<-HND.out] at hLk
   unfold jz at hLk
   dsimp only at hLk
   go_wp2_with fail
   refine hLk.mono ?_
   rintro e w2 ⟨rfl,ec⟩
   clear hLk L
   have E_:=hq.look ap K B8
   obtain⟨d,HD⟩:=az (H2 k oW q)
   have hqd:=hq.H2 ap K B8
   rw[<-HD.out] at hqd
   have XD:=St.call (a:=nZ aeu s (q.1.oB k oW,q.2)) (b:=[]) ec (a':=λv=>[.o (tG v d.v),.o (iP aeu d.x),.o (g9 s d.s)]) (λv=>⟨tG.framed _ _,iP.framed _ _,g9.framed _ _,trivial⟩) ec.no (by have:=M9 w2 (λ_=>False) aeu s _ 400 (q.1.oB k oW) q.2 E_.good E_.ok (by have:q.2.len<=_:=hq.len;omega) nd;rw[show fh nd 400 ⟨0,q.1.oB k oW,q.2,none⟩=d by rw[HD.out,HND.out,<-hq.nr];unfold H2;rfl] at this;exact this)
   have HQ:Hid (F=if d.v=none then tH k oW (8-(r+1)) (d.x,d.s) else ((d.x,d.s),d.v)):=Q (by rw[HQ.out,HD.out,show 8-r=(8-(r+1))+1 by omega];rfl)
   have XD:dF N 93 #[aeu,s,J 400,J nd] w2 _:=XD
   generalize d.v=dv at HQ XD
   cases dv with
   | none=>
     go_wp2_with fail
     refine XD.mono ?_
     rintro e w3 ⟨v,rfl,eh⟩
     obtain⟨U,hv,_⟩:=eh.own.see 0 rfl
     obtain rfl:v=.pointer none:=hv
     go_wp2_with fail
     exact⟨⟨r+1,(d.x,d.s),by go_num,by omega,Q (by rw[HQ.out];exact aA trivial),hqd.mono ap ap,eh.drop⟩,by simp[intOf];omega⟩
   | some n=>
     rw[aB (by simp)] at HQ
     go_wp2_with fail
     refine XD.mono ?_
     rintro e w3 ⟨v,rfl,eh⟩
     obtain⟨U,⟨y,cs,hv,hc,hU,hB⟩,_⟩:=eh.own.see 0 rfl
     subst hv
     have c6:w3.cell? (y,6)=some (ae ah n):=(hB.cell 6).trans hc
     go_wp2
     go_ret2
     rw[HQ.out]
     obtain⟨r1,r2⟩:=eh.drop.fin
     exact⟨(),rfl,r1,r2⟩
  ·have c1:decide ((r:Int)<8)=false:=aD ap
   have hrr:8-r=0:=by omega
   rw[hrr] at HQ
   clear hrr
   go_wp2
   go_ret2
   rw[HQ.out]
   obtain⟨r1,r2⟩:=L.fin
   exact⟨(),rfl,r1,r2⟩
set_option maxRecDepth 100000
set_option maxHeartbeats 1000000
section
variable{c0 c1 c2 c3 c4 c5 c6 c7:E}
def H4(hB:eL w r 118 #[c0,c1,c2,c3,c4,c5,c6,c7]):dF N 17 #[r] w λe O=>e=b5 c3∧w=O:=by have c:=hB.cell 3;go_in;go_wp2;go_ret;exact⟨rfl,rfl⟩
def Ox(hB:eL w r 118 #[c0,c1,c2,c3,c4,c5,c6,c7]):dF N 83 #[r] w λe O=>e=b5 c6∧w=O:=by have c:=hB.cell 6;go_in;go_wp2;go_ret;exact⟨rfl,rfl⟩
def Ky(hB:eL w r 118 #[c0,c1,c2,c3,c4,c5,c6,c7]):dF N 21 #[r] w λe O=>e=b5 c4∧w=O:=by have c:=hB.cell 4;go_in;go_wp2;go_ret;exact⟨rfl,rfl⟩
end
section
variable{s:Nat}{p:WS}
def XE(h:St V w0 (nZ aeu s p++l) w)(hi:i<p.1.nr):∃r m:Nat,dF N 31 #[aeu,J i] w (λe O=>e=b5 ((r:E))∧w=O)∧dF N 17 #[r] w (λe O=>e=b5 ((m:E))∧w=O)∧dF N 83 #[r] w (λe O=>e=b5 (aY (p.1.rp i).leads)∧w=O)∧dF N 21 #[r] w (λe O=>e=b5 (J ((p.1.rp i).commit:Int))∧w=O):=by obtain⟨P,hP,hQ,L⟩:=iP.opn h;have W_:=sb (j8 L hQ) hQ hi;rw[hP] at W_;obtain⟨U,⟨q,g,I,_,T⟩,_⟩:=(L.front (5+i) (S3 P p.1 hi _)).own.see 0 rfl;obtain⟨_,hB⟩:=yE T 0 rfl;unfold kQ at hB;rw[I] at hB;exact⟨P.r i,q.m,W_,H4 hB,Ox hB,Ky hB⟩
def a48(h:St V w0 (nZ aeu s p++l) w)(hi:i<p.1.na):∃a:Nat,dF N 47 #[aeu,J i] w (λe O=>e=b5 ((a:E))∧w=O):=by obtain⟨P,hP,hQ,hF⟩:=ED h;have:=oy hF hQ hi;rw[hP] at this;exact⟨P.a i,this⟩
def a0g(h:St V w0 (nZ aeu s p++l) w):∃g:Nat,dF N 37 #[aeu] w (λe O=>e=b5 ((g:E))∧w=O)∧dF N 89 #[g] w (λe O=>e=b5 (J p.1.net.length)∧w=O):=M8 h 0 rfl
end
theorem Kz(w:G)(V:aV)(A:aU)(c:Nat)(l:List I3)(h:In w V 3 A l.length (fP l))(hn:l.length<=1048576):dF N 94 #[Y A l.length c] w λe O=>∃A' c',e=b5 (Y A' l.length c')∧In O (New w O) 3 A' l.length (fP l)∧Grow w O:=by
 have lD:=λ(O:G)=>Lib.run_eql_slice_nil (P:=N) O 81 37 A l.length c 0 0 Tryz.underlying81;obtain⟨n,HN⟩:=az (l.length:Nat);rw[<-HN.out] at h hn lD ⊢;cases A with
 | none=>
   have B4:n=0:=by
    rcases cn n with h0|h0
    ·exact h0
    ·obtain⟨_,e,_⟩:=h.2 ap;cases e
   subst B4;have hl:l=[]:=bv HN.out.symm;subst hl;go_in;go_wp2;go_ret;exact⟨_,_,rfl,In.nil,Grow.refl _⟩
 | some ad=>
   go_in;go_wp2_with (at_builtin;refine stay ?_);refine dN ?_;refine fZ (V:=λb=>b=(w:Nat)) idE _ rfl (.tmp 5) (.tmp 6) rfl (Y (some ⟨(w:Nat),0,none⟩) 0 0) 0 [] rfl (mn w _ _) (w:Nat) (some ad) n c (fP l) rfl (Reads.alloc (In.reads h) (bh _) _) (vS l) ap ?_;intro v1 w1 l6 yl;simp only[cL,cC] at l6;obtain⟨tM,eO⟩:=oc l6 yl;obtain⟨A2,c2,rfl,hI,jf,hm⟩:=tM.kB;go_wp2;go_ret;exact⟨A2,c2,rfl,hI,eO⟩
def KA(w:G)(D:aV)(s:Nat)(x:ja)(X:x.len<=1000000):Lw N D 36 #[s] [.o (g9 s x)] (λ(j:Option dG×Nat)e=>e=b5 (Y j.1 x.ak.length j.2)) (λj=>[.o (rJ (Y j.1 x.ak.length j.2) x.ak)]++[.o (g9 s x)]) w:=by intro V hM hV;obtain⟨v,L⟩:=g9.opn (St.begin_ hM (λb hb=>(hV b hb).1) ⟨g9.framed _ _,trivial⟩);obtain⟨U,⟨A,c,hv,hI⟩,_⟩:=L.own.see 1 rfl;have c0:w.cell? (s,0)=some v.1:=L.facts.1.1 0;rw[hv] at c0;have hC:=Kz w U A c x.ak hI (by unfold ja.len at X;omega);obtain⟨n,HN⟩:=az (x.ak.length:Nat);rw[<-HN.out] at hC c0 ⊢;go_in;go_wp2_with fail;refine hC.mono ?_;rintro e w2 ⟨A',c',rfl,KL,H⟩;go_wp2;go_ret;have ec:=(g9.cls (l:=[]) L).join (rJ.framed (Y A' n c') x.ak) H (U:=New w w2) ⟨A',c',by rw[HN.out],by rw[<-HN.out];exact KL⟩ (λb hb=>hb);obtain⟨r1,r2⟩:=ec.fin;exact⟨(A',c'),rfl,r1,r2⟩
def SL(w:G):Lw N (λ_=>False) 82 #[] [] (λ(s:Nat)e=>e=b5 (((s:Nat):E))) (λs=>[.o (g9 s ja.new)]) w:=by intro V hM hV;have fY:=St.begin_ hM (λb hb=>(hV b hb).1) trivial;have eC:=fY.new #[ay,ay,ay] 166;go_in;go_wp2;go_ret;have I:=eC.join (fT.framed 42 1 (Y none 0 0) 0 []) (Grow.refl _) (U:=λ_=>False) Row.nil (λ_ h=>h.elim);have Z:=I.join (rJ.framed (Y none 0 0) []) (Grow.refl _) (U:=λ_=>False) ⟨none,0,rfl,In.nil⟩ (λ_ h=>h.elim);have T:=Z.join (rJ.framed (Y none 0 0) []) (Grow.refl _) (U:=λ_=>False) ⟨none,0,rfl,In.nil⟩ (λ_ h=>h.elim);have h4:=g9.cls (x:=ja.new) (v:=(Y none 0 0,Y none 0 0,Y none 0 0)) (l:=[]) (T.front 3 rfl);obtain⟨r1,r2⟩:=h4.fin;exact⟨_,rfl,r1,r2⟩
set_option maxRecDepth 100000
set_option maxHeartbeats 1000000
def KB(h:n<18446744073709551616):(Rc.ep n).B.length<=20:=by show (ic 1 [n]).length<=20;have I:=eG h;have Z:=eG (show 1<18446744073709551616 by decide);unfold ic;simp;omega
def H5(I:1<=nr)(h8:nr+na<=8):(Wl.new nr na).Good 1:=by
 refine⟨⟨I,h8⟩,λi hi=>?_,λi hi=>?_,m_.nil _,λ_ h=>by simp[Wl.new] at h⟩
 ·have hi:i<nr:=hi
  exact⟨Rp.Wf.open_ ⟨hi,by omega⟩ ⟨λ_ h=>by simp at h,by show (zK []).length<=_;exact bo _⟩,λ_ h=>by simp[Wl.new,Rp.open_] at h,rfl,rfl,bo _,λ_ h=>by cases h⟩
 ·have hi:i<na:=hi
  have WU:(sx ([]++[.ep 1])).length<=1048576:=by show (frame (Rc.ep 1).B++[]).length<=_;rw[bm,k7];have I:=KB (n:=1) am;have Z:=eG (show (Rc.ep 1).B.length<18446744073709551616 by omega);omega
  refine⟨Ag.Wf.new ap ⟨I,by omega⟩ (λ_ h=>by simp at h) ⟨bh _,by decide⟩ WU,λr hr=>?_,(Ag.Ti.new (nr+i) nr I [] 1).mono am⟩;have:r=.ep 1:=by simpa [Wl.new,Ag.new] using hr
  subst this;exact bA (KB am) am
@[irreducible] def kn(nr na:Nat):WS:=((fh (-1) 100 ⟨0,(Wl.new nr na).gY 0,ja.new,none⟩).x,(fh (-1) 100 ⟨0,(Wl.new nr na).gY 0,ja.new,none⟩).s)
theorem Ax(I:1<=nr)(h8:nr+na<=8):ip (kn nr na) nr na 2 100:=by have h:=(H5 I h8).gY (i:=0) I;obtain⟨a,b,c,e,f⟩:=oC (-1) 100 ⟨0,(Wl.new nr na).gY 0,ja.new,none⟩ h ja.Ok.new;unfold kn;exact⟨a,b,c,e,f⟩
def Mc(w:G)(nr na:Nat)(I:1<=nr)(Z:1<=na)(h8:nr+na<=8)(hL:((kn nr na).1.rp 0).leads=true):Lw N (λ_=>False) 26 #[J nr,J na] [] (λ(i:Nat×Nat)e=>e=b5 (a_ #[((i.1,0):E),((i.2,0):E)])) (λi=>nZ i.1 i.2 (kn nr na)) w:=by
 intro V hM hV;have fY:St V w ([]++[]) w:=St.begin_ hM (λb hb=>(hV b hb).1) trivial;have hN:=St.call (a:=[]) (b:=[]) fY (a':=λaeu=>[.o (iP aeu (Wl.new nr na))]) (λaeu=>⟨iP.framed _ _,trivial⟩) fY.no (a04 w nr na I Z h8);have gS:=Ax I h8;have gN:=H5 I h8;obtain⟨F,HF⟩:=az (kn nr na);rw[<-HF.out] at gS hL ⊢;obtain⟨x0,HX0⟩:=az (Wl.new nr na);have WQ:x0.nr=nr∧x0.na=na:=by rw[HX0.out];exact⟨rfl,rfl⟩
 rw[<-HX0.out] at hN gN;have HF:Hid (F=((fh (-1) 100 ⟨0,x0.gY 0,ja.new,none⟩).x,(fh (-1) 100 ⟨0,x0.gY 0,ja.new,none⟩).s)):=Q (by rw[HF.out,HX0.out];unfold kn;rfl);clear HX0;go_in;go_wp2_with fail;refine hN.mono ?_;rintro e w1 ⟨aeu,rfl,eC⟩;unfold ptr;have P4:=St.call (a:=[]) (b:=[.o (iP aeu x0)]) eC (a':=λs=>[.o (g9 s ja.new)]) (λs=>⟨g9.framed _ _,trivial⟩) eC.no (SL w1);clear fY hN;go_wp2_with fail;refine P4.mono ?_;rintro e w2 ⟨s,rfl,ec⟩;have ec:St V w (nZ aeu s (x0,ja.new)++[]) w2:=ec.front 1 rfl;clear eC P4;go_wp2_with fail;go_loopw [8] (λi wr=>∃k:Nat,i=J k∧k<=na∧w2=wr) (λi _=>na-(intOf i).toNat);case atStart=>exact⟨0,rfl,bo _,rfl⟩
 case round=>
  obtain⟨k,rfl,K,rfl⟩:=hrel;by_cases oF:k<na
  ·have c1:decide ((k:Int)<(na:Int))=true:=aC ap
   obtain⟨a,Tq⟩:=a48 ec (i:=k) (by rw[WQ.2];exact oF);go_wp2_with fail;refine Tq.mono ?_;rintro e w3 ⟨rfl,rfl⟩;go_wp2_with fail;exact⟨⟨k+1,by go_num,by omega,by trivial⟩,by simp[intOf];omega⟩
  ·have c1:decide ((k:Int)<(na:Int))=false:=aD ap
   go_wp2_with fail;clear c1;go_loopw [9] (λi wr=>∃k:Nat,i=J k∧k<=nr∧w2=wr) (λi _=>nr-(intOf i).toNat);case atStart=>exact⟨0,rfl,bo _,rfl⟩
   case round=>
    obtain⟨j,rfl,hj,rfl⟩:=hrel;by_cases xf:j<nr
    ·have c1:decide ((j:Int)<(nr:Int))=true:=aC ap
     obtain⟨r,m,W_,h17,_⟩:=XE ec (i:=j) (by rw[WQ.1];exact xf);go_wp2_with fail;refine W_.mono ?_;rintro e w3 ⟨rfl,rfl⟩;go_wp2_with fail;refine W_.mono ?_;rintro e w3 ⟨rfl,rfl⟩;go_wp2_with fail;refine h17.mono ?_;rintro e w3 ⟨rfl,rfl⟩;go_wp2_with fail;exact⟨⟨j+1,by go_num,by omega,by trivial⟩,by simp[intOf];omega⟩
    ·have c1:decide ((j:Int)<(nr:Int))=false:=aD ap
     obtain⟨g,h37,_⟩:=a0g ec;go_wp2_with fail;refine h37.mono ?_;rintro e w3 ⟨rfl,rfl⟩;clear c1 h37;obtain⟨y,wa,HY,HA,eh⟩:=ec.new' (jz ⟨8,0,0,0,⟨#[]⟩⟩) 75;unfold jz at HA;dsimp only at HA;have mK:l4 aeu x0 ja.new [⟨8,0,0,0,⟨#[]⟩⟩] true (x0.gY 0) ja.new:=by refine l4.ok (ev:={ Ev.zero with node:=0 }) (x':=x0.gY 0) (gN.SI am (i:=0) (by rw[WQ.1];exact I) 0 0 ⟨#[]⟩) rfl am ?_;exact l4.nil _ _
     have eh:St V w [.o (iP aeu x0),.o (g9 s ja.new),.c y 75 (([⟨8,0,0,0,⟨#[]⟩⟩]:List Ac).flatMap Kv).toArray] wa:=eh.perm (bg (l₁:=[_]));have W:=St.call (b:=[]) eh (a':=λ(_:Unit)=>[.o (iP aeu (x0.gY 0)),.o (g9 s ja.new),.c y 75 (([⟨8,0,0,0,⟨#[]⟩⟩]:List Ac).flatMap Kv).toArray]) (λ_=>⟨iP.framed _ _,g9.framed _ _,trivial,trivial⟩) eh.no (SG wa (λ_=>False) aeu s y x0 (x0.gY 0) ja.new ja.new [⟨8,0,0,0,⟨#[]⟩⟩] true mK ja.Ok.new am);have W:dF N 32 #[aeu,s,Y (some (y,0)) 1 1] wa _:=W;go_wp2_with fail;rw[<-HA.out,<-HY.out];refine W.mono ?_;rintro e w4 ⟨_,rfl,eU⟩;clear W eh mK HA HY;have eU:St V w [.o (iP aeu (x0.gY 0)),.o (g9 s ja.new)] w4:=eU.dT 2 rfl;have eO:=gN.gY (i:=0) (by rw[WQ.1];exact I);have hD:=St.call (a:=[.o (iP aeu (x0.gY 0)),.o (g9 s ja.new)]) (b:=[]) eU (a':=λ(_:Unit)=>nZ aeu s F) (λ_=>qo _ _ _) eU.no (by have:=EB w4 (λ_=>False) aeu s _ 100 (x0.gY 0) ja.new eO ja.Ok.new am;rw[HF.out];exact this)
     generalize (fh (-1) 100 ⟨0,x0.gY 0,ja.new,none⟩).n=m at hD;have hD:dF N 40 #[aeu,s,J 100] w4 _:=hD;go_wp2_with fail;refine hD.mono ?_;rintro e w5 ⟨_,rfl,eI⟩;clear hD eU;obtain⟨r,_,W_,_,h83,_⟩:=XE eI (i:=0) (by rw[gS.nr];exact I);rw[hL] at h83;have W_:dF N 31 #[aeu,()] w5 _:=W_;go_wp2_with fail;refine W_.mono ?_;rintro e w6 ⟨rfl,rfl⟩;go_wp2_with fail;refine h83.mono ?_;rintro e w6 ⟨rfl,rfl⟩;go_wp2;go_ret2;obtain⟨r1,r2⟩:=eI.fin;exact⟨(aeu,s),rfl,r1,r2⟩
def Oy(e:En):Prop:=e.Ok∧(p_ e).length<=340
structure SR(x:Rp)(es:List En)(ms:jy)(aeq Bd:Nat):Prop where
 node:x.node=0
 nodes:x.nodes=1
 T1:1<=aeq∧aeq<=1000000
 c:x.s.c=⟨aeq,aeq,es⟩
 m:x.m=ms
 commit:x.commit=es.length
 leads:x.leads=true
 own:x.own<=es.length
 v:∃v,x.v=some v∧v.t=aeq∧v.nodes=1∧v.ac.length=8∧v.ac.getD 0 0<=(es.length:Int)
 bs:x.s.bs.length<=Bd
 ok:∀e∈es,Oy e
theorem SN{l:List En}(h:∀e∈l,Oy e):(sR l).length<=l.length*350:=by
 unfold sR;induction l with
 | nil=>exact bh _
 | cons e l ih=>
   have I:=ih λx X=>h x (by simp[X]);have Z:=(h e (by simp)).2;have T:=eG (n:=(p_ e).length) ap;rw[bN,bd,bC];have h4:(eB e).length=(enc (p_ e).length).length+(p_ e).length:=by unfold eB;rw[bd]
   omega
def uY{l:List En}(h:∀e∈l,Oy e)(hl:l.length<=51){h':Nat}(ht:t<18446744073709551616)(hh:h'<18446744073709551616):(ol t h' l).length<=30+l.length*350:=by have I:=SN h;have Z:=eG ht;have T:=eG hh;have h4:=eG (n:=l.length) ap;unfold ol;simp only[bd];omega
def m9{b:aT}(h:b.length<=65536):(frame b).length<=b.length+14:=by have:=eG (n:=b.length) ap;rw[k7];omega
def rK{y:Wo}(I:y.B.length<=65536)(Z:s.bs.length+(frame y.B).length<=1048576):s.keep y=some ⟨s.ws++[y]⟩:=aA (pD.2 ⟨I,Z⟩)
def EE(ws:List Wo)(y:Wo):(Vs.mk (ws++[y])).bs=zK ws++frame y.B:=rx _ _
theorem H7(h:ac.length=8):most 1 ac=ac.getD 0 0:=by
 match ac,h with
 | a::l,_=>
   unfold most;show (qz [a]).getD 0 0=a;rw[List.perm_singleton.1 (yT [a])];rfl
theorem SO(h:ac.length=8)(hn:ac.getD 0 0<=(n:Int)):most 1 (ac.set 0 (max (ac.getD 0 0) (n:Int)))=(n:Int):=by
 rw[H7 (by rw[dq];exact h)];match ac,h with
 | a::l,_=>
   show max a (n:Int)=_;have:a<=(n:Int):=hn;omega
theorem SR.told{x:Rp}{es:List En}{ms:jy}{aeq Bd Bd':Nat}(h:SR x es ms aeq Bd){v:Vt}(hv:x.v=some v){s:Vs}{e:En}(hs:s.c=⟨aeq,aeq,es++[e]⟩)(hb:s.bs.length<=Bd')(he:Oy e):SR (Rp.told { x with s:=s } v).1 (es++[e]) (ey ms e).2.2 aeq Bd'∧(Rp.told { x with s:=s } v).2=[(e.fr,fD e.tg (ey ms e).1 (ey ms e).2.1)]:=by
 obtain⟨v',hv',v1,v2,v3,v4⟩:=h.v;rw[hv] at hv';cases hv';have fp:s.c.es.length=es.length+1:=by rw[hs];simp
 have hN:(v.accepted x.node s.c.es.length).1.toNat=es.length+1:=by show (most v.nodes (v.ac.set x.node (max (v.ac.getD x.node 0) (s.c.es.length:Int)))).toNat=_;rw[h.node,v2,SO v3 (by rw[fp];omega),fp];simp
 have hdr:(s.c.es.take (es.length+1)).drop x.commit=[e]:=by rw[hs,h.commit];show ((es++[e]).take (es.length+1)).drop es.length=_;rw[bH (by simp),List.drop_left]
 have WW:ET x.leads x.own [e] x.commit x.m []=((ey ms e).2.2,[sw e.fr e.tg (ey ms e).1 (ey ms e).2.1]):=by have ho:decide (x.own<=x.commit)=true:=aC (by rw[h.commit];exact h.own);unfold ET;rw[h.leads,ho,h.m];rfl
 have hc:Rp.counted { x with s:=s } v x.node s.c.es.length=({ x with s:=s,v:=some (v.told x.node s.c.es.length),m:=(ey ms e).2.2,commit:=es.length+1 },[(e.fr,fD e.tg (ey ms e).1 (ey ms e).2.1)]):=by unfold Rp.counted;rw[hN];unfold Rp.apply;dsimp only;rw[hdr,WW,fp,h.commit];dsimp only;rw[show max es.length (min (es.length+1) (es.length+1))=es.length+1 by omega];rfl
 have ht:Rp.told { x with s:=s } v=({ x with s:=s,v:=some (v.told x.node s.c.es.length),m:=(ey ms e).2.2,commit:=es.length+1 },[(e.fr,fD e.tg (ey ms e).1 (ey ms e).2.1)]):=by
  unfold Rp.told;dsimp only;rw[hc];dsimp only;have:Rp.accepts { x with s:=s,v:=some (v.told x.node s.c.es.length),m:=(ey ms e).2.2,commit:=es.length+1 }=[]:=by unfold Rp.accepts;dsimp only;rw[h.node,h.nodes];rfl
  rw[this,bm]
 rw[ht];refine⟨⟨h.node,h.nodes,h.T1,hs,rfl,by simp,h.leads,by have:=h.own;rw[bd];show x.own<=_;omega,⟨_,rfl,v1,v2,by show (v.ac.set _ _).length=8;rw[dq];exact v3,?_⟩,?_,λz hz=>?_⟩,rfl⟩
 ·show (v.ac.set x.node (max (v.ac.getD x.node 0) (s.c.es.length:Int))).getD 0 0<=_
  rw[h.node,fp,bd,bw];revert v3 v4;match v.ac with
  | []=>intro I;simp at I
  | a::l=>
    intro _ Z;have Z:a<=(es.length:Int):=Z;show max a ((es.length+1:Nat):Int)<=_;omega
 ·exact hb
 ·rcases List.mem_append.1 hz with hz|hz
  ·exact h.ok z hz
  ·rw[List.mem_singleton.1 hz];exact he
theorem SR.ask{x:Rp}{es:List En}{ms:jy}{aeq Bd:Nat}(h:SR x es ms aeq Bd)(qE:Bd<=1000000)(hn:es.length<=50){f:Int}{e:En}(he:Oy { e with fr:=f }):SR (x.ask f e).1 (es++[{ e with fr:=f }]) (ey ms { e with fr:=f }).2.2 aeq (Bd+18000)∧(x.ask f e).2=[(f,fD e.tg (ey ms { e with fr:=f }).1 (ey ms { e with fr:=f }).2.1)]:=by
 obtain⟨v,hv,v1,_⟩:=h.v;have hf:0<=f∧f<8:=he.1.1.1;have EZ:x.s.c.es=es:=by rw[h.c]
 have gS:∀z∈es++[{ e with fr:=f }],Oy z:=λz hz=>by
  rcases List.mem_append.1 hz with hz|hz
  ·exact h.ok z hz
  ·rw[List.mem_singleton.1 hz];exact he
 have Dc:(es++[{ e with fr:=f }]).length=es.length+1:=by rw[bd,bw]
 have hw:=uY gS ap (t:=aeq) (h':=aeq) (by have:=h.T1;omega) (by have:=h.T1;omega);obtain⟨es',HE⟩:=az (es++[{ e with fr:=f }]);have a9y:x.s.c.es++[{ e with fr:=f }]=es':=by rw[EZ,HE.out]
 rw[<-HE.out] at hw Dc gS;have hB:Wo.B ⟨aeq,aeq,es'⟩=ol aeq aeq es':=rfl;have qC:=m9 (b:=ol aeq aeq es') ap;have TN:=h.bs;have K:=rK (s:=x.s) (y:=⟨aeq,aeq,es'⟩) (by rw[hB];omega) (by rw[hB];omega);have hac:x.s.accept v.t (x.s.c.es++[{ e with fr:=f }])=some ⟨x.s.ws++[⟨aeq,aeq,es'⟩]⟩:=by rw[a9y];unfold Vs.accept Vs.next;rw[v1,h.c];dsimp only;have:=h.T1;rw[aB ap,aB ap,aA ap];exact K
 have a8N:x.ask f e=Rp.told { x with s:=⟨x.s.ws++[⟨aeq,aeq,es'⟩]⟩ } v:=by unfold Rp.ask;rw[h.leads,hv];dsimp only;rw[aB (by rw[EZ];omega),hac]
 rw[a8N];exact h.told hv (by rw[Vs.mR,HE.out]) (by rw[EE,bd,hB];have:(zK x.s.ws).length<=Bd:=TN;omega) he
def SR.begin_:SR ((Rp.open_ 0 1 []).lead).1 [] jy.new 1 100∧((Rp.open_ 0 1 []).lead).2=[]:=by
 have hz:∀t h:Nat,t<18446744073709551616->h<18446744073709551616->(Wo.B ⟨t,h,[]⟩).length<=30:=λt h ht hh=>uY (l:=[]) (λ_ h=>by simp at h) am ht hh;have h0:=hz 1 0 am am;have I:=hz 1 1 am am;have f0:=m9 (b:=Wo.B ⟨1,0,[]⟩) ap;have f1:=m9 (b:=Wo.B ⟨1,1,[]⟩) ap;have k0:(Vs.mk []).promise 1=some ⟨[⟨1,0,[]⟩]⟩:=rK (s:=⟨[]⟩) (y:=⟨1,0,[]⟩) ap (by show 0+_<=_;omega);have b0:(Vs.mk [⟨1,0,[]⟩]).bs=frame (Wo.B ⟨1,0,[]⟩):=bm _;have k1:(Vs.mk [⟨1,0,[]⟩]).accept 1 []=some ⟨[⟨1,0,[]⟩,⟨1,1,[]⟩]⟩:=rK (s:=⟨[⟨1,0,[]⟩]⟩) (y:=⟨1,1,[]⟩) ap (by rw[b0];omega);obtain⟨v,HV⟩:=az (((Vt.new 1 1).promise 0 0 []).2);have e:(Rp.open_ 0 1 []).lead=Rp.told ⟨0,1,⟨[⟨1,0,[]⟩,⟨1,1,[]⟩]⟩,jy.new,0,some v,true,0⟩ v:=by have hp:(Rp.open_ 0 1 []).s.promise (mE (Rp.open_ 0 1 []).s.c.t (Rp.open_ 0 1 []).node (Rp.open_ 0 1 []).nodes)=some ⟨[⟨1,0,[]⟩]⟩:=k0;unfold Rp.lead;rw[aB (show ¬ ((Rp.open_ 0 1 []).s.c.t > 1099511627776) from (by decide:¬ (0 > 1099511627776))),hp];dsimp only;rw[aA aj];unfold Rp.won;have ha:(Rp.mk 0 1 ⟨[⟨1,0,[]⟩]⟩ jy.new 0 (some ((Vt.new 1 1).promise 0 0 []).2) false 0).s.accept ((Vt.new 1 1).promise 0 0 []).2.t ((Vt.new 1 1).promise 0 0 []).2.best=some ⟨[⟨1,0,[]⟩,⟨1,1,[]⟩]⟩:=k1;show (match (Rp.mk 0 1 ⟨[⟨1,0,[]⟩]⟩ jy.new 0 (some ((Vt.new 1 1).promise 0 0 []).2) false 0).s.accept ((Vt.new 1 1).promise 0 0 []).2.t ((Vt.new 1 1).promise 0 0 []).2.best with|none=>_|some s=>_)=_;rw[ha,HV.out];rfl
 have hc:∀n,Rp.apply ⟨0,1,⟨[⟨1,0,[]⟩,⟨1,1,[]⟩]⟩,jy.new,0,some (v.told 0 0),true,0⟩ n=(⟨0,1,⟨[⟨1,0,[]⟩,⟨1,1,[]⟩]⟩,jy.new,0,some (v.told 0 0),true,0⟩,[]):=λn=>by unfold Rp.apply;have:(Rp.mk 0 1 ⟨[⟨1,0,[]⟩,⟨1,1,[]⟩]⟩ jy.new 0 (some (v.told 0 0)) true 0).s.c.es=[]:=rfl;rw[this,List.take_nil,List.drop_nil];simp[ET]
 have e2:Rp.told ⟨0,1,⟨[⟨1,0,[]⟩,⟨1,1,[]⟩]⟩,jy.new,0,some v,true,0⟩ v=(⟨0,1,⟨[⟨1,0,[]⟩,⟨1,1,[]⟩]⟩,jy.new,0,some (v.told 0 0),true,0⟩,[]):=by have T:Rp.counted ⟨0,1,⟨[⟨1,0,[]⟩,⟨1,1,[]⟩]⟩,jy.new,0,some v,true,0⟩ v 0 0=(⟨0,1,⟨[⟨1,0,[]⟩,⟨1,1,[]⟩]⟩,jy.new,0,some (v.told 0 0),true,0⟩,[]):=hc _;unfold Rp.told;show ((Rp.counted _ v 0 0).1,(Rp.counted _ v 0 0).2++(Rp.counted _ v 0 0).1.accepts)=_;rw[T];rfl
 rw[e,e2];have hv:v.t=1∧v.nodes=1∧v.ac=cU 8 0:=by rw[HV.out];exact⟨rfl,rfl,rfl⟩
 refine⟨⟨rfl,rfl,by decide,rfl,rfl,rfl,rfl,bh _,⟨_,rfl,hv.1,hv.2.1,?_,?_⟩,?_,λ_ h=>by simp at h⟩,rfl⟩
 ·show (v.ac.set _ _).length=8
  rw[hv.2.2];rfl
 ·show (v.ac.set 0 (max (v.ac.getD 0 0) ((0:Nat):Int))).getD 0 0<=_
  rw[hv.2.2];decide
 ·show (zK [⟨1,0,[]⟩,⟨1,1,[]⟩]).length<=_
  have:zK [⟨1,0,[]⟩,⟨1,1,[]⟩]=frame (Wo.B ⟨1,0,[]⟩)++(frame (Wo.B ⟨1,1,[]⟩)++[]):=rfl;rw[this];simp only[bd,cx];omega
def SR.again{x:Rp}(h:SR x es ms aeq Bd)(qE:Bd<=1000000)(hn:es.length<=51)(hT:aeq<1000000):SR x.lead.1 es ms (aeq+1) (Bd+36000)∧x.lead.2=[]:=by
 have hT1:=h.T1;have hw0:=uY h.ok hn (t:=aeq+1) (h':=aeq) ap ap;have yk:=uY h.ok hn (t:=aeq+1) (h':=aeq+1) ap ap;have wu:Wo.B ⟨aeq+1,aeq,es⟩=ol (aeq+1) aeq es:=rfl;have lb:Wo.B ⟨aeq+1,aeq+1,es⟩=ol (aeq+1) (aeq+1) es:=rfl;have hf0:=m9 (b:=ol (aeq+1) aeq es) ap;have hf1:=m9 (b:=ol (aeq+1) (aeq+1) es) ap;have TN:=h.bs;have hct:x.s.c.t=aeq:=by rw[h.c]
 have htm:mE x.s.c.t x.node x.nodes=aeq+1:=by rw[hct,h.node,h.nodes];unfold mE;simp[Nat.mod_one]
 obtain⟨s1,HS1⟩:=az (⟨x.s.ws++[⟨aeq+1,aeq,es⟩]⟩:Vs);have k0:x.s.promise (aeq+1)=some s1:=by unfold Vs.promise;rw[aA (by rw[hct];omega),h.c,HS1.out];exact rK (s:=x.s) (y:=⟨aeq+1,aeq,es⟩) (by rw[wu];omega) (by rw[wu];omega)
 have lx:s1.c=⟨aeq+1,aeq,es⟩:=by rw[HS1.out];exact Vs.mR _ _
 have sH:s1.bs.length<=Bd+18000:=by rw[HS1.out,EE,bd,wu];have:(zK x.s.ws).length<=Bd:=TN;omega
 obtain⟨s2,HS2⟩:=az (⟨s1.ws++[⟨aeq+1,aeq+1,es⟩]⟩:Vs);have k1:s1.accept (aeq+1) es=some s2:=by unfold Vs.accept Vs.next;rw[lx];dsimp only;rw[aB ap,aB ap,aA ap,HS2.out];exact rK (s:=s1) (y:=⟨aeq+1,aeq+1,es⟩) (by rw[lb];omega) (by rw[lb];omega)
 have mL:s2.c=⟨aeq+1,aeq+1,es⟩:=by rw[HS2.out];exact Vs.mR _ _
 have nu:s2.bs.length<=Bd+36000:=by rw[HS2.out,EE,bd,lb];have:(zK s1.ws).length<=Bd+18000:=sH;omega
 obtain⟨v,HV⟩:=az (((Vt.new (aeq+1) 1).promise 0 aeq es).2);have hvp:(Vt.new (aeq+1) 1).promise 0 aeq es=(true,⟨aeq+1,1,[true,false,false,false,false,false,false,false],cU 8 0,aeq,es,1⟩):=rfl;have hv:v=⟨aeq+1,1,[true,false,false,false,false,false,false,false],cU 8 0,aeq,es,1⟩:=by rw[HV.out,hvp]
 have e:x.lead=Rp.told { x with s:=s2,leads:=true,own:=es.length,v:=some v } v:=by
  unfold Rp.lead;rw[aB (by rw[hct];omega),htm,k0];dsimp only;rw[lx,h.node,h.nodes,hvp,<-hv];dsimp only;rw[aA rfl];unfold Rp.won;have ha:s1.accept v.t v.best=some s2:=by rw[hv];exact k1
  show (match s1.accept v.t v.best with|none=>_|some s=>_)=_;rw[ha];dsimp only;rw[mL]
 have hac:∀n:Nat,(v.told 0 n).ac=(n:Int)::cU 7 0:=λn=>by rw[hv];show (cU 8 (0:Int)).set 0 (max 0 (n:Int))=_;rw[Int.max_eq_right ap];rfl
 have hN:(v.accepted 0 es.length).1.toNat=es.length:=by show (most v.nodes (v.told 0 es.length).ac).toNat=_;rw[hac,hv];show (most 1 ((es.length:Int)::cU 7 0)).toNat=_;rw[H7 (by simp)];simp
 have WW:∀z:Rp,z.s=s2->z.commit=es.length->z.m=ms->z.apply es.length=(z,[]):=λz I Z T=>by obtain⟨a1,a2,a3,a4,a5,a6,a7,a8⟩:=z;dsimp only at I Z T;subst I Z T;unfold Rp.apply;dsimp only;rw[mL];dsimp only;rw[bH (bh _),cB (bh _)];simp[ET]
 have e2:Rp.told { x with s:=s2,leads:=true,own:=es.length,v:=some v } v=({ x with s:=s2,leads:=true,own:=es.length,v:=some (v.told 0 es.length) },[]):=by
  have T:∀i m,i=0->m=es.length->Rp.counted { x with s:=s2,leads:=true,own:=es.length,v:=some v } v i m=({ x with s:=s2,leads:=true,own:=es.length,v:=some (v.told 0 es.length) },[]):=by rintro _ _ rfl rfl;unfold Rp.counted;rw[hN];exact WW _ rfl h.commit h.m
  unfold Rp.told;dsimp only;rw[T x.node s2.c.es.length h.node (by rw[mL])];dsimp only;have:Rp.accepts { x with s:=s2,leads:=true,own:=es.length,v:=some (v.told 0 es.length) }=[]:=by unfold Rp.accepts;dsimp only;rw[h.node,h.nodes];rfl
  rw[this];rfl
 rw[e,e2];refine⟨⟨h.node,h.nodes,by omega,mL,h.m,h.commit,rfl,bh _,⟨_,rfl,by rw[hv];rfl,by rw[hv];rfl,by rw[hac];simp,by rw[hac];exact Int.le_refl _⟩,nu,h.ok⟩,rfl⟩
def Wp(s:aR):aev.mN s 1=0:=by
 have h:aev.yY 1=1:=by decide
 unfold aev.mN;rw[h];exact Int.emod_one _
structure DS(d:Dl):Prop where
 p:aev.gl d.1=0
 n:1<=d.2∧d.2<=18446744073709551615
 s:d.1.size<=20
structure SA(a:Ag)(n:Nat)(eW:List Dl)(q:List aes.Ab)(tr:List (lZ×(Nat×Nat)))(ask:List (Int×lZ))(B:Nat):Prop where
 node:a.node=1
 f9:a.f9=1
 last:a.last=0
 ep:a.b.ep=1
 eW:a.b.eW=eW
 sh:a.b.sh=1
 q:a.b.q=[⟨q,(n:Int)⟩,⟨[],0⟩,⟨[],0⟩,⟨[],0⟩]
 tr:a.tr=tr
 ask:a.ask=ask
 bs:a.bs.length<=B
def KC(h:DS d):(dB d).length<=40:=by have I:=eG (n:=d.1.size) (by have:=h.s;omega);have Z:=eG (n:=d.2) (by have:=h.n;omega);have T:d.1.data.toList.length=d.1.size:=rfl;have:=h.s;unfold dB;simp only[bd];omega
def Ay{ns:aQ}(K:k<18446744073709551616)(h:∀x∈ns,x<18446744073709551616):(ic k ns).length<=10+ns.length*10:=by have I:=eG K;have Z:=uB ns h;unfold ic;rw[bd];omega
def Wq(h:DS d):(Rc.eW d).B.length<=80:=by
 have I:=Ay (k:=2) (ns:=[]) am (λ_ h=>by simp at h);have Z:=KC h;show (ic 2 []++nC [d]).length<=80;have:(nC [d]).length=(dB d).length:=by simp[nC]
 rw[bd,this];simp only[cx] at I;omega
def Wr(h:DS d)(hs:sq<=9223372036854775807):(Rc.qF 0 sq [d]).B.length<=80:=by
 have I:=Ay (k:=3) (ns:=[0,sq,1]) am (λx X=>by simp at X;rcases X with rfl|rfl|rfl<;>omega);have Z:=KC h;show (ic 3 [0,sq,1]++nC [d]).length<=80;have:(nC [d]).length=(dB d).length:=by simp[nC]
 rw[bd,this];simp only[bC,cx] at I;omega
def SP(hs:sq<=9223372036854775807):(Rc.dn 0 sq).B.length<=80:=by have I:=Ay (k:=5) (ns:=[0,sq]) am (λx X=>by simp at X;rcases X with rfl|rfl<;>omega);show (ic 5 [0,sq]).length<=80;simp only[bC,cx] at I;omega
def yj{a:Ag}{r:Rc}(hb:a.bs.length<=B)(hB:B<=1000000)(hr:r.B.length<=80):a.iA r=0∧(sx (a.rs++[r])).length<=B+100:=by have hf:=m9 (b:=r.B) ap;refine⟨((nE a.bs r.B).1 (pD.2 ⟨by omega,by omega⟩)).1,?_⟩;rw[pF,bd];have:(sx a.rs).length<=B:=hb;omega
namespace SA
variable{a:Ag}{q:List aes.Ab}{ask:List (Int×lZ)}
def mono{B':Nat}(h:SA a n eW q tr ask B)(hB:B<=B'):SA a n eW q tr ask B':=⟨h.node,h.f9,h.last,h.ep,h.eW,h.sh,h.q,h.tr,h.ask,bA h.bs hB⟩
theorem gn(h:SA a n eW q tr ask B)(hB:B<=1000000){d:Dl}(hd:DS d)(hm:jl eW d=0):SA (a.gn d).1 n (eW++[d]) q tr ask (B+100)∧(a.gn d).2=0:=by
 obtain⟨r1,r2⟩:=yj (a:=a) h.bs hB (Wq hd);have e:a.gn d=({ a with b:={ a.b with eW:=a.b.eW++[d] },rs:=a.rs++[.eW d] },0):=by unfold Ag.gn;rw[aB (by rw[h.eW];omega),aB ap]
 rw[e];exact⟨⟨h.node,h.f9,h.last,h.ep,by show a.b.eW++[d]=_;rw[h.eW],h.sh,h.q,h.tr,h.ask,r2⟩,rfl⟩
def SS(h:SA a n eW q tr ask B):a.b.qu 0=⟨q,(n:Int)⟩:=by unfold Bk.qu;rw[h.q];rfl
def quk(h:SA a n eW q tr ask B)(K:k=1∨k=2∨k=3):(a.b.qu k).l=[]:=by unfold Bk.qu;rw[h.q];rcases K with rfl|rfl|rfl<;>rfl
theorem cut(h:SA a n eW [] tr ask B)(hB:B<=1000000)(hn:n<1000000){d:Dl}(hd:DS d)(hj:qB eW=[d])(l9:∀x∈eW,x.1=d.1):SA a.cut.1 (n+1) [] [(((n+1:Nat):Int),[d])] tr ask (B+100)∧a.cut.2=[(0,((n+1:Nat):Int))]:=by
 obtain⟨r1,r2⟩:=yj (a:=a) (r := .qF 0 (n+1) [d]) h.bs hB (Wr hd ap);have vi:a.kb 0=[d]:=by unfold Ag.kb;rw[h.sh,h.eW,<-hj];congr 1;rw[de];intro x _;exact aC (Wp x.1)
 have Df:a.qF 0 [d]=.qF 0 (n+1) [d]:=by unfold Ag.qF;rw[h.SS];rfl
 obtain⟨y,HY⟩:=az ({ a with b:=a.b.add 0 ((a.b.qu 0).k+1) [d],rs:=a.rs++[a.qF 0 [d]] });have lx:a.l7 0 [d]=some y:=by rw[HY.out];unfold Ag.l7;rw[aB];rw[h.SS,Df];show ¬ (16<=0∨(n:Int)=9223372036854775807∨a.iA (.qF 0 (n+1) [d])≠0);omega
 have qG:a.b.add 0 ((a.b.qu 0).k+1) [d]={ a.b with eW:=[],q:=[⟨[(((n+1:Nat):Int),[d])],((n+1:Nat):Int)⟩,⟨[],0⟩,⟨[],0⟩,⟨[],0⟩],cuts:=a.b.cuts++[((0:Int),((n+1:Nat):Int))] }:=by
  unfold Bk.add;rw[h.SS,aA (by show aes.vE [] (n:Int) ((n:Int)+1) 1=0;unfold aes.vE;rw[aB ap,aB ap,aB am,aB am,aB am])]
  have:a.b.eW.filter (λz => !OP [d] z)=[]:=by rw[List.filter_eq_nil_iff,h.eW];intro z hz;unfold OP;simp[l9 z hz]
  rw[this,h.q];rfl
 have hK:a.kR 0=(y,[((n+1:Nat):Int)],true):=by
  unfold Ag.kR;rw[vi];show (if [d]=[] then _ else match a.l7 0 ([d].take 8) with|none=>_|some y=>_)=_;rw[aB (by simp)];have:[d].take 8=[d]:=rfl;rw[this,lx];show (y,(y.b.qu 0).k::[],true)=_;have:(y.b.qu 0).k=((n+1:Nat):Int):=by rw[HY.out];dsimp only;rw[qG];rfl
  rw[this]
 have hA:a.eE (bF a.b.sh)=(y,[(0,((n+1:Nat):Int))]):=by rw[h.sh];show (if (a.kR 0).2.2=true then _ else _)=_;rw[hK,aA rfl];rfl
 have OJ:a.cut=(y.sync,[(0,((n+1:Nat):Int))]):=by unfold Ag.cut;rw[hA,aB (by simp)]
 rw[OJ];refine⟨?_,rfl⟩;rw[HY.out];unfold Ag.sync;refine⟨h.node,h.f9,h.last,?_,?_,?_,?_,h.tr,h.ask,?_⟩;·show (a.b.add 0 _ [d]).ep=1;rw[qG];exact h.ep
 ·show (a.b.add 0 _ [d]).eW=[];rw[qG]
 ·show (a.b.add 0 _ [d]).sh=1;rw[qG];exact h.sh
 ·show (a.b.add 0 _ [d]).q=_;rw[qG]
 ·show (sx (a.rs++[a.qF 0 [d]])).length<=_;rw[Df];exact r2
def Md(h:SA a n [] q tr ask B):SA a.cut.1 n [] q tr ask B∧a.cut.2=[]:=by
 have vi:a.kb 0=[]:=by unfold Ag.kb;rw[h.eW];rfl
 have hK:a.kR 0=(a,[],true):=by unfold Ag.kR;rw[vi];rfl
 have hA:a.eE (bF a.b.sh)=(a,[]):=by rw[h.sh];show (if (a.kR 0).2.2=true then _ else _)=_;rw[hK,aA rfl];rfl
 have OJ:a.cut=(a,[]):=by unfold Ag.cut;rw[hA,aA rfl]
 rw[OJ];exact⟨h,rfl⟩
end SA
def l5(n:Nat):lZ:=(1,0,(n:Int))
def mI(n:Nat)(d:Dl)(tg:Nat):En:=⟨1,1,0,(n:Int),1,[d],⟨#[]⟩,1,(tg:Int)⟩
namespace SA
variable{a:Ag}{q:List aes.Ab}{ask:List (Int×lZ)}{ds:List Dl}{t:Nat×Nat}
def tick(h:SA a n eW [((n:Int),ds)] [] [] B){ds':Dl}(vb:ds=[ds']):∃t,SA (a.gv 1 []).1 n eW [((n:Int),[ds'])] [(l5 n,t)] [(((a.tag+1:Nat):Int),l5 n)] B∧(a.gv 1 []).2=[(0,gH (mI n ds' (a.tag+1)))]:=by
 subst vb;obtain⟨b,HB⟩:=az (({ a with now:=a.now+1 }:Ag));have AV:(b.b.qu 0).l.take 4=[((n:Int),[ds'])]:=by rw[HB.out];show (a.b.qu 0).l.take 4=_;rw[h.SS];rfl
 have hid:b.jm 0 (n:Int)=l5 n:=by rw[HB.out];show ((a.node:Int),((0:Nat):Int),(n:Int))=_;rw[h.node];rfl
 have XZ:b.tries (l5 n)=(0,0):=by rw[HB.out];show (r_ a.tr (l5 n)).getD (0,0)=_;rw[h.tr];rfl
 have hE:b.uR (l5 n) [ds']=mI n ds' (a.tag+1):=by rw[HB.out];show (⟨1,1,0,(n:Int),a.b.ep,[ds'],⟨#[]⟩,(a.node:Int),((a.tag+1:Nat):Int)⟩:En)=_;rw[h.ep,h.node];rfl
 have Is:b.to 0=0:=by rw[HB.out];show (a.last+0) % a.f9=0;rw[h.last,h.f9]
 obtain⟨c,HC⟩:=az (b.send (l5 n) (0,0));have lb:Ag.fu 0 [((n:Int),[ds'])] b []=(c,[(0,gH (mI n ds' (a.tag+1)))]):=by show (if (b.tries (b.jm 0 (n:Int))).1=0∨_ then _ else _)=_;rw[hid,XZ,aA (.inl rfl)];show (b.send (l5 n) (0,0),[]++[(((b.to 0:Nat):Int),gH (b.uR (l5 n) [ds']))])=_;rw[Is,hE,HC.out];rfl
 have Ik:c.b=a.b:=by rw[HC.out,HB.out];rfl
 have lD:∀k,k=1∨k=2∨k=3->(c.b.qu k).l.take 4=[]:=λk K=>by rw[Ik,h.quk K];rfl
 have KH:a.gv 1 []=(c,[(0,gH (mI n ds' (a.tag+1)))]):=by
  show Ag.gv 0 (Ag.gu [0,1,2,3] { a with now:=a.now+1 } []).1 (Ag.gu [0,1,2,3] { a with now:=a.now+1 } []).2=_;rw[<-HB.out];have:Ag.gu [0,1,2,3] b []=(c,[(0,gH (mI n ds' (a.tag+1)))]):=by show Ag.gu [1,2,3] (Ag.fu 0 ((b.b.qu 0).l.take 4) b []).1 (Ag.fu 0 ((b.b.qu 0).l.take 4) b []).2=_;rw[AV,lb];show Ag.gu [2,3] (Ag.fu 1 ((c.b.qu 1).l.take 4) c _).1 (Ag.fu 1 ((c.b.qu 1).l.take 4) c _).2=_;rw[lD 1 (by simp)];show Ag.gu [3] (Ag.fu 2 ((c.b.qu 2).l.take 4) c _).1 (Ag.fu 2 ((c.b.qu 2).l.take 4) c _).2=_;rw[lD 2 (by simp)];show Ag.gu [] (Ag.fu 3 ((c.b.qu 3).l.take 4) c _).1 (Ag.fu 3 ((c.b.qu 3).l.take 4) c _).2=_;rw[lD 3 (by simp)];rfl
  rw[this];rfl
 rw[KH];refine⟨(0+1,b.now+sP (b.tag+1) 0),⟨?_,?_,?_,?_,?_,?_,?_,?_,?_,?_⟩,rfl⟩;·rw[HC.out,HB.out];exact h.node
 ·rw[HC.out,HB.out];exact h.f9
 ·rw[HC.out,HB.out];exact h.last
 ·show c.b.ep=1;rw[Ik];exact h.ep
 ·show c.b.eW=_;rw[Ik];exact h.eW
 ·show c.b.sh=1;rw[Ik];exact h.sh
 ·show c.b.q=_;rw[Ik];exact h.q
 ·rw[HC.out]
  show tD b.tr (l5 n) _=_;have:b.tr=[]:=by rw[HB.out];exact h.tr
  rw[this];rfl
 ·rw[HC.out]
  show tD b.ask ((b.tag+1:Nat):Int) (l5 n)=_;have:b.ask=[]:=by rw[HB.out];exact h.ask
  rw[this,HB.out];rfl
 ·rw[HC.out,HB.out];exact h.bs
def done(h:SA a n eW [((n:Int),ds)] [(l5 n,t)] [(((g:Nat):Int),l5 n)] B)(oX:1<=n)(hn:n<1000000)(hB:B<=1000000){code:Nat}(hc:code=1∨code=2∨code=3):SA (a.took 0 g code) n eW [] [] [] (B+100):=by
 obtain⟨r1,r2⟩:=yj (a:=a) (r := .dn 0 n) h.bs hB (SP ap);have vi:a.jO g=l5 n:=by unfold Ag.jO;rw[h.ask];unfold r_;simp
 have kr:l5 n≠(0,0,0):=λe=>by have:(1:Int)=0:=congrArg (·.1) e;omega
 have h6:code≠6:=by omega
 have Is:a.took 0 g code=Ag.fin { a with ask:=ij a.ask (g:Int),last:=0 } 1 0 n:=by unfold Ag.took;dsimp only;rw[vi,aB kr,aB h6,aA hc];rfl
 rw[Is];have EL:Ag.put { a with ask:=ij a.ask (g:Int),last:=0 } (.dn 0 n)={ a with ask:=ij a.ask (g:Int),last:=0,rs:=a.rs++[.dn 0 n] }:=by unfold Ag.put;exact aA r1
 unfold Ag.fin;rw[EL];have qJ:aes.ra (a.b.qu 0).l (n:Int)=[]:=by rw[h.SS];unfold aes.ra aes.uq;simp
 refine⟨h.node,h.f9,rfl,h.ep,h.eW,h.sh,?_,?_,?_,r2⟩
 ·show a.b.q.set 0 ⟨aes.ra (a.b.qu 0).l (n:Int),(a.b.qu 0).k⟩=_
  rw[qJ,h.SS,h.q];rfl
 ·show ij a.tr ((1:Int),(0:Int),(n:Int))=_
  rw[h.tr];unfold ij l5;simp
 ·show xF (ij a.ask (g:Int)) _=_
  rw[h.ask];unfold ij;simp[xF]
theorem look(h:SA a n eW q tr [] B){s:aR}(hp:aev.gl s=0):SA (a.look s).1 n eW q tr [(((a.tag+1:Nat):Int),(0,0,0))] B:=by
 have e:(a.look s).1=a.next (0,0,0):=by unfold Ag.look;rw[aB ap]
 rw[e];exact⟨h.node,h.f9,h.last,h.ep,h.eW,h.sh,h.q,h.tr,by show tD a.ask _ _=_;rw[h.ask];rfl,h.bs⟩
def seen(h:SA a n eW q tr [(((g:Nat):Int),(0,0,0))] B):SA (a.took 0 g 8) n eW q tr [] B:=by
 have vi:a.jO g=(0,0,0):=by unfold Ag.jO;rw[h.ask];unfold r_;simp
 have Is:a.took 0 g 8={ a with ask:=ij a.ask (g:Int),last:=0 }:=by unfold Ag.took;dsimp only;rw[vi,aA rfl,aB (by simp)];rfl
 rw[Is];refine⟨h.node,h.f9,rfl,h.ep,h.eW,h.sh,h.q,h.tr,?_,h.bs⟩;show ij a.ask (g:Int)=_;rw[h.ask];unfold ij;simp
end SA
theorem SA.new:SA (Ag.new 1 1 [] 1) 0 [] [] [] [] 100:=by refine⟨rfl,rfl,rfl,rfl,rfl,rfl,rfl,rfl,rfl,?_⟩;show (frame (Rc.ep 1).B++[]).length<=_;rw[bm];have I:=KB (n:=1) am;have:=m9 (b:=(Rc.ep 1).B) ap;omega
structure SW(x:Wl)(es:List En)(ms:jy)(aeq Bd n:Nat)(eW:List Dl)(q:List aes.Ab)(tr:List (lZ×(Nat×Nat)))(ask:List (Int×lZ))(B:Nat)(net:List Lt3):Prop where
 nr:x.nr=1
 na:x.na=1
 cut:x.cut=λ_=>false
 net:x.net=net
 rp:SR (x.rp 0) es ms aeq Bd
 ag:SA (x.ag 0) n eW q tr ask B
def a49{b d e:Nat}(ha:a<18446744073709551616)(hb:b<18446744073709551616)(hc:c<18446744073709551616)(hd:d<18446744073709551616)(he:e<18446744073709551616):([a,b,c,d,e].flatMap enc).length<=50:=by have:=rk [a,b,c,d,e] (λx X=>by simp at X;rcases X with rfl|rfl|rfl|rfl|rfl<;>assumption);exact this
def EF(hd:DS d)(hn:1<=n∧n<=9223372036854775807)(ht:tg<=9223372036854775807):Oy (mI n d tg):=by
 refine⟨⟨⟨⟨by show (0:Int)<=1;decide,by show (1:Int)<8;decide⟩,by show (0:Int)<=(tg:Int);omega,by show (tg:Int)<=_;omega⟩,.inl ⟨rfl,rfl,⟨by show (0:Int)<=1;decide,by show (1:Int)<8;decide⟩,⟨by show (0:Int)<=0;decide,by show (0:Int)<4;decide⟩,⟨by show (1:Int)<=(n:Int);omega,by show (n:Int)<=_;omega⟩,⟨by show (1:Int)<=1;decide,by show (1:Int)<=9223372036854775807;decide⟩,⟨by show 1<=[d].length;simp,by show [d].length<=8;simp⟩,λz hz=>?_⟩⟩,?_⟩
 ·rw[List.mem_singleton.1 (show z∈[d] from hz)]
  exact⟨hd.n.1,hd.n.2,hd.p,by have:=hd.s;omega⟩
 ·have I:=eG (n:=1) am
  have Z:=eG (n:=tg) ap;have T:=a49 (a:=1) (b:=0) (c:=n) (d:=1) (e:=1) am am ap am am;have h4:=KC hd;have h5:(nC [d]).length=(dB d).length:=by simp[nC]
  have e:p_ (mI n d tg)=[UInt8.ofNat 1]++enc 1++enc tg++([1,0,n,1,1].flatMap enc)++nC [d]:=by unfold p_ mI;rw[aB (show ¬ (1:Int)=2 by decide)];simp
  rw[e];simp only[bd,bw];omega
def SU{s:aR}(hp:aev.gl s=0)(hs:s.size<=20)(ht:tg<=9223372036854775807):Oy (k_ s 1 tg):=by
 refine⟨⟨⟨⟨by show (0:Int)<=1;decide,by show (1:Int)<8;decide⟩,by show (0:Int)<=(tg:Int);omega,by show (tg:Int)<=_;omega⟩,.inr ⟨rfl,rfl,rfl,rfl,rfl,rfl,hp,jM hp⟩⟩,?_⟩;have I:=eG (n:=1) am;have Z:=eG (n:=tg) ap;have T:=eG (n:=s.size) ap;have h4:s.data.toList.length=s.size:=rfl;have e:p_ (k_ s 1 tg)=[UInt8.ofNat 2]++enc 1++enc tg++enc s.size++s.data.toList:=by unfold p_ k_;rw[aA rfl];simp
 rw[e];simp only[bd,bw];omega
def H8(h:Oy e):lJ (gH e)=true:=by have I:=eG (n:=(p_ e).length) (by have:=h.2;omega);have Z:=h.2;have e1:jI (gH e)=[UInt8.ofNat 1]++enc (p_ e).length++p_ e:=aA rfl;unfold lJ;rw[e1];refine aC ?_;simp only[bd,bw];omega
def SV(H:g<18446744073709551616)(hc:c<18446744073709551616)(hn:n<18446744073709551616):lJ (fD (g:Int) (c:Int) n)=true:=by
 have I:=eG H;have Z:=eG hc;have T:=eG hn;have e1:jI (fD (g:Int) (c:Int) n)=[UInt8.ofNat 2]++enc g++enc c++enc n:=by unfold jI;rw[aB (show ¬ (fD (g:Int) (c:Int) n).k=1 from (by decide:¬ (2:Int)=1)),aA (show (fD (g:Int) (c:Int) n).k=2 from rfl)];simp[fD]
 unfold lJ;rw[e1];refine aC ?_;simp only[bd,bw];omega
namespace SW
variable{q:List aes.Ab}{ask:List (Int×lZ)}{rest:List Lt3}
def Az(h:SW x es ms aeq Bd n eW q tr ask B ((1,0,gH e)::rest))(hr:rest.length<=62)(qE:Bd<=1000000)(hn:es.length<=50)(he:Oy e)(hf:e.fr=1){m:Nat}(H:e.tg=(g:Int))(B5:g<=9223372036854775807)(hc:(ey ms e).1=(c:Int))(mL:c<=255)(hm:(ey ms e).2.1=m)(BO:m<18446744073709551616):(x.lu 0).1={ Ev.zero with node:=0 }∧SW (x.lu 0).2 (es++[e]) (ey ms e).2.2 aeq (Bd+18000) n eW q tr ask B (rest++[(0,1,fD (g:Int) (c:Int) m)]):=by
 have hee:{ e with fr:=(1:Int) }=e:=by rw[<-hf]
 obtain⟨r1,r2⟩:=h.rp.ask qE hn (f:=1) (e:=e) (by rw[hee];exact he);rw[hee] at r1 r2;have hrc:(x.rp 0).recv 1 (gH e)=(x.rp 0).ask 1 e:=aA rfl;have hd:x.lu 0=({ Ev.zero with node:=0 },((x.del 0).rF 0 ((x.rp 0).ask 1 e).1).send 0 ((x.rp 0).ask 1 e).2):=by unfold Wl.lu;rw[h.net];show (if x.cut (1*8+0)=true then _ else if 0<x.nr then _ else _)=_;rw[h.cut,aB (by simp),h.nr,aA am];show (({ Ev.zero with node:=0 }:Ev),((x.del 0).rF 0 ((x.rp 0).recv 1 (gH e)).1).send 0 ((x.rp 0).recv 1 (gH e)).2)=_;rw[hrc]
 rw[hd,r2,H,hc,hm];refine⟨rfl,h.nr,h.na,h.cut,?_,?_,h.ag⟩
 ·show iL (x.nr+x.na) 0 (x.net.eraseIdx 0) [((1:Int),fD (g:Int) (c:Int) m)]=_
  rw[h.net,h.nr,h.na];show (if lJ (fD (g:Int) (c:Int) m)=true∧((0:Int)<=1∧(1:Int)<((1+1:Nat):Int))∧rest.length<64 then _ else _)=_;rw[aA ⟨SV ap ap BO,am,by omega⟩];rfl
 ·show SR (at_ x.rp 0 ((x.rp 0).ask 1 e).1 0) _ _ _ _
  rw[ox];exact r1
def SX{m:Nat}{i:lZ}(h:SW x es ms aeq Bd n eW q tr ask B ((0,1,fD (g:Int) (c:Int) m)::rest))(hi:r_ ask (g:Int)=some i){n' B':Nat}{SY:List Dl}{q':List aes.Ab}{XF:List (lZ×(Nat×Nat))}{SZ:List (Int×lZ)}(hsa:SA ((x.ag 0).took 0 g c) n' SY q' XF SZ B'):(x.lu 0).1={ Ev.zero with node:=1,code:=(c:Int),id:=i,n:=if (c:Int)=8 then m else 0 }∧SW (x.lu 0).2 es ms aeq Bd n' SY q' XF SZ B' rest:=by
 have l8:(r_ (x.ag 0).ask (g:Int)).isSome=true:=by rw[h.ag.ask,hi];rfl
 have vi:(x.ag 0).jO g=i:=by unfold Ag.jO;rw[h.ag.ask,hi];rfl
 have hd:x.lu 0=({ Ev.zero with node:=1,code:=(c:Int),id:=i,n:=if (c:Int)=8 then m else 0 },(x.del 0).jQ 0 ((x.ag 0).took 0 g c)):=by unfold Wl.lu;rw[h.net];show (if x.cut (0*8+1)=true then _ else if 1<x.nr then _ else _)=_;rw[h.cut,aB (by simp),h.nr,aB am];show (if (r_ (x.ag 0).ask (g:Int)).isSome=true then (({ Ev.zero with node:=1,code:=(c:Int),id:=(x.ag 0).jO (g:Int).toNat,n:=if (c:Int)=8 then m else 0 }:Ev),(x.del 0).jQ 0 ((x.ag 0).took 0 (g:Int).toNat (c:Int).toNat)) else _)=_;rw[aA l8,cG,cG,vi]
 rw[hd];refine⟨rfl,h.nr,h.na,h.cut,?_,h.rp,?_⟩
 ·show x.net.eraseIdx 0=rest
  rw[h.net];rfl
 ·show SA (at_ x.ag 0 ((x.ag 0).took 0 g c) 0) _ _ _ _ _ _
  rw[ox];exact hsa
def KD{m:Nat}(h:SW x es ms aeq Bd n eW q tr ask B ((0,1,fD (g:Int) (c:Int) m)::rest))(hi:r_ ask (g:Int)=none):(x.lu 0).1={ Ev.zero with node:=1 }∧SW (x.lu 0).2 es ms aeq Bd n eW q tr ask B rest:=by
 have l8:¬ (r_ (x.ag 0).ask (g:Int)).isSome=true:=by rw[h.ag.ask,hi];simp
 have hd:x.lu 0=({ Ev.zero with node:=1 },(x.del 0).jQ 0 (x.ag 0)):=by unfold Wl.lu;rw[h.net];show (if x.cut (0*8+1)=true then _ else if 1<x.nr then _ else _)=_;rw[h.cut,aB (by simp),h.nr,aB am];show (if (r_ (x.ag 0).ask (g:Int)).isSome=true then _ else (({ Ev.zero with node:=1 }:Ev),(x.del 0).jQ 0 (x.ag 0)))=_;rw[aB l8]
 rw[hd,show (x.del 0).jQ 0 (x.ag 0)=x.del 0 from Wl.Av (x.del 0) 0];refine⟨rfl,h.nr,h.na,h.cut,?_,h.rp,h.ag⟩;show x.net.eraseIdx 0=rest;rw[h.net];rfl
end SW
def rL(node:Int)(k:Nat){d:Dr}(h:d.x.net.length≠0):fh node (k+1) d=fh node k (d.step node):=aB h
def ja.told(s:ja)(c:Nat)(i:I3)(m:Nat):ja:=s.add 2 { Ev.zero with node:=1,code:=(c:Int),id:=i,n:=if (c:Int)=8 then m else 0 }
def step_eq{d:Dr}{node:Int}{ev:Ev}{x1:Wl}(I:(d.x.lu 0).1=ev)(Z:(d.x.lu 0).2=x1)(hw:ev.why=0):d.step node=⟨d.n+1,x1,d.s.add 2 ev,if ev.code=8∧ev.node=node then some ev.n else d.v⟩:=by
 have tS:¬ ev.why=26:=by rw[hw];decide
 unfold Dr.step;rw[I,Z,aB tS];have hv:(if ev.why≠26∧ev.code=8∧ev.node=node then some ev.n else d.v)=if ev.code=8∧ev.node=node then some ev.n else d.v:=by
  by_cases h:ev.code=8∧ev.node=node;·rw[aA ⟨tS,h⟩,aA h]
  ·rw[aB (λk=>h k.2),aB h]
 rw[hv];rfl
namespace SW
variable{q:List aes.Ab}{ask:List (Int×lZ)}
def two{m:Nat}{i:lZ}(h:SW x es ms aeq Bd n eW q tr [((g:Int),i)] B [(1,0,gH e)])(qE:Bd<=1000000)(hn:es.length<=50)(he:Oy e)(hf:e.fr=1)(H:e.tg=(g:Int))(B5:g<=9223372036854775807)(hc:(ey ms e).1=(c:Int))(mL:c<=255)(hm:(ey ms e).2.1=m)(BO:m<18446744073709551616)
 {B':Nat} {q':List aes.Ab} {XF:List (lZ×(Nat×Nat))} (hsa:∀a,SA a n eW q tr [((g:Int),i)] B->SA (a.took 0 g c) n eW q' XF [] B') (node:Int) (k a:Nat) (s:ja) (v:Option Nat):∃y,fh node (k+2) ⟨a,x,s,v⟩=⟨a+2,y,s.told c i m,if (c:Int)=8∧(1:Int)=node then some m else v⟩∧SW y (es++[e]) (ey ms e).2.2 aeq (Bd+18000) n eW q' XF [] B' []:=by
 obtain⟨e1,w1⟩:=h.Az (bo _) qE hn he hf H B5 hc mL hm BO;obtain⟨x1,EV⟩:=aE ((x.lu 0).2);rw[<-EV] at w1;obtain⟨e2,w2⟩:=SW.SX (rest:=[]) w1 (i:=i) (by unfold r_;simp) (hsa _ w1.ag);obtain⟨x2,kq⟩:=aE ((x1.lu 0).2);rw[<-kq] at w2;have s1:Dr.step ⟨a,x,s,v⟩ node=⟨a+1,x1,s,v⟩:=by rw[step_eq (d:=⟨a,x,s,v⟩) e1 EV.symm rfl];exact congrArg (λz=>(⟨a+1,x1,s,z⟩:Dr)) (aB (show ¬ ((0:Int)=8∧(0:Int)=node) from λh=>absurd h.1 am))
 have s2:Dr.step ⟨a+1,x1,s,v⟩ node=⟨a+2,x2,s.told c i m,if (c:Int)=8∧(1:Int)=node then some m else v⟩:=by
  rw[step_eq (d:=⟨a+1,x1,s,v⟩) e2 kq.symm rfl];have hv:(if (c:Int)=8∧(1:Int)=node then some (if (c:Int)=8 then m else 0) else v)=if (c:Int)=8∧(1:Int)=node then some m else v:=by
   by_cases I:(c:Int)=8∧(1:Int)=node;·rw[aA I,aA I,aA I.1]
   ·rw[aB I,aB I]
  exact congrArg (λz=>(⟨a+2,x2,s.told c i m,z⟩:Dr)) hv
 refine⟨x2,?_,w2⟩;rw[rL node (k+1) (by show x.net.length≠0;rw[h.net];simp),s1,rL node k (by show x1.net.length≠0;rw[w1.net];simp),s2,m8 node (by show x2.net.length=0;rw[w2.net];rfl)]
theorem jQ{n' B':Nat}{SY:List Dl}{q':List aes.Ab}{XF:List (lZ×(Nat×Nat))}{SZ:List (Int×lZ)}{net:List Lt3}(h:SW x es ms aeq Bd n eW q tr ask B net){a:Ag}(ha:SA a n' SY q' XF SZ B'):SW (x.jQ 0 a) es ms aeq Bd n' SY q' XF SZ B' net:=⟨h.nr,h.na,h.cut,h.net,h.rp,by show SA (at_ x.ag 0 a 0) _ _ _ _ _ _;rw[ox];exact ha⟩
def Ws(hd:DS d):jl [] d=0:=by
 unfold jl;have:iq d=true:=by unfold iq;rw[aC hd.p,aC (by have:=hd.n;omega)];rfl
 rw[this,aB am,aB am,aB (by simp[xv])]
def sent(h:SW x es ms aeq Bd n eW q tr ask B [])(he:Oy e):SW (x.send (x.nr+0) [((0:Int),gH e)]) es ms aeq Bd n eW q tr ask B [(1,0,gH e)]:=by refine⟨h.nr,h.na,h.cut,?_,h.rp,h.ag⟩;show iL (x.nr+x.na) (x.nr+0) x.net [((0:Int),gH e)]=_;rw[h.net,h.nr,h.na];show (if lJ (gH e)=true∧_∧_ then _ else _)=_;rw[aA ⟨H8 he,(by decide:(0:Int)<=0∧(0:Int)<((1+1:Nat):Int)),(by decide:0<64)⟩];rfl
def mG(h:SW x es ms aeq Bd n [] [((n:Int),[d])] [] [] B [])(hd:DS d)(hn:1<=n∧n<=1000000)(ht:(x.ag 0).tag<9223372036854775807):∃t,SW (x.jR 0 1) es ms aeq Bd n [] [((n:Int),[d])] [(l5 n,t)] [((((x.ag 0).tag+1:Nat):Int),l5 n)] B [(1,0,gH (mI n d ((x.ag 0).tag+1)))]:=by obtain⟨t,I,Z⟩:=h.ag.tick (ds':=d) rfl;refine⟨t,?_⟩;have:=(h.jQ I).sent (EF hd ⟨hn.1,by omega⟩ (tg:=(x.ag 0).tag+1) ap);unfold Wl.jR;rw[Z];exact this
end SW
def oD(x:Wl)(d:Dl):Wl:=((x.gZ 0 d).gi 0).jR 0 1
@[irreducible] def uZ(d:Dl)(p:WS):WS:=xH (oD p.1 d,p.2)
namespace SW
theorem oD{d:Dl}(h:SW x es ms aeq Bd n [] [] [] [] B [])(hd:DS d)(hn:n<1000000)(hB:B<=900000)(ht:(x.ag 0).tag<9223372036854775807):∃(t:Nat×Nat)(tg:Nat),tg<=9223372036854775807∧SW (oD x d) es ms aeq Bd (n+1) [] [(((n+1:Nat):Int),[d])] [(l5 (n+1),t)] [((tg:Int),l5 (n+1))] (B+200) [(1,0,gH (mI (n+1) d tg))]∧((x.ag 0).gn d).2=0:=by
 obtain⟨a1,a2⟩:=h.ag.gn ap hd (Ws hd);have I:=h.jQ a1;have c1:=(I.ag.cut ap hn hd (d:=d) rfl (λz hz=>by rw[List.mem_singleton.1 (show z∈[d] from hz)])).1;have Z:=I.jQ c1;have a0Y:(((x.gZ 0 d).gi 0).ag 0).tag=(x.ag 0).tag:=by show (at_ (x.gZ 0 d).ag 0 ((x.gZ 0 d).ag 0).cut.1 0).tag=_;rw[ox,(Ag.oA.cut _).tag];show (at_ x.ag 0 ((x.ag 0).gn d).1 0).tag=_;rw[ox,(Ag.oA.gn _ _).tag]
 obtain⟨t,T⟩:=SW.mG (x:=(x.gZ 0 d).gi 0) Z hd ⟨by omega,by omega⟩ (by rw[a0Y];exact ht);exact⟨t,(((x.gZ 0 d).gi 0).ag 0).tag+1,by rw[a0Y];omega,T,a2⟩
end SW
def KE(x:Wl)(t:ja):xH (x,t)=((fh (-1) 400 ⟨0,x,t,none⟩).x,(fh (-1) 400 ⟨0,x,t,none⟩).s):=by unfold xH;rfl
def H9(d:Dl)(p:WS):uZ d p=((fh (-1) 400 ⟨0,oD p.1 d,p.2,none⟩).x,(fh (-1) 400 ⟨0,oD p.1 d,p.2,none⟩).s):=by unfold uZ;exact KE _ _
def Hc(ms:jy)(n:Nat)(d:Dl)(tg:Nat):ey ms (mI n d tg)=ey ms (mI n d 0):=rfl
def AA{p:WS}(h:ip p 1 1 M aev)(hM:M<=1048576):(p.1.ag 0).tag<9223372036854775807:=by have:=(h.good.ag 0 (by rw[h.na];decide)).ti.tm.tag;omega
def SW.give{p:WS}(h:SW p.1 es ms aeq Bd n [] [] [] [] B [])(hd:DS d)(qE:Bd<=1000000)(EZ:es.length<=50)(hn:n<900000)(hB:B<=900000)(ht:(p.1.ag 0).tag<9223372036854775807)(hc:(ey ms (mI (n+1) d 0)).1=(c:Int))(tP:c=1∨c=2∨c=3)(hm:(ey ms (mI (n+1) d 0)).2.1=0):∃tg,(uZ d p).2=p.2.told c (l5 (n+1)) 0∧SW (uZ d p).1 (es++[mI (n+1) d tg]) (ey ms (mI (n+1) d 0)).2.2 aeq (Bd+18000) (n+1) [] [] [] [] (B+300) []:=by
 obtain⟨t,tg,Nk,I,_⟩:=h.oD hd ap hB ht;have sD:c<=255:=by omega
 have hsa:∀a,SA a (n+1) [] [(((n+1:Nat):Int),[d])] [(l5 (n+1),t)] [((tg:Int),l5 (n+1))] (B+200)->SA (a.took 0 tg c) (n+1) [] [] [] [] (B+300):=λa ha=>ha.done ap ap ap tP;obtain⟨y,Z,T⟩:=I.two qE EZ (EF hd ⟨by omega,by omega⟩ Nk) rfl rfl Nk (c:=c) hc sD (m:=0) hm am hsa (-1) 398 0 p.2 none;refine⟨tg,?_⟩;have Z:fh (-1) 400 ⟨0,Go.Proofs.YtpeepcmdehhbgaaGreatDoor.oD p.1 d,p.2,none⟩=_:=Z;rw[H9,Z];exact⟨rfl,T⟩
def S_{p:WS}(hp:ip p 1 1 M aev)(hM:M<=1000000)(h:SW p.1 es ms aeq Bd n [] [] [] [] B [])(hd:DS d)(hd2:d.2<=9223372036854775807)(hn:n<900000)(hB:B<=900000):l4 aeu p.1 p.2 (G_ 1 (d.2:Int) d.1) true (oD p.1 d) p.2∧ip (oD p.1 d,p.2) 1 1 (M+1) aev:=by
 obtain⟨_,_,_,_,hi⟩:=h.oD hd ap hB (AA hp ap);have h0:0<p.1.na:=by rw[hp.na];decide
 have g1:=hp.good.gZ h0 (d:=d) ap;have g2:=g1.gi h0;have g3:=g2.jR ap h0 (n:=1) am;have a1:=hp.good.H1 (aeu:=aeu) h0 0 (n:=d.2) (s:=d.1) (by have:=hd.s;omega) hd2;rw[hp.nr] at a1;have a2:=g1.EC (aeu:=aeu) (x:=p.1.gZ 0 d) h0 0 0 ⟨#[]⟩;rw[show (p.1.gZ 0 d).nr=1 from hp.nr] at a2;have a3:=g2.Ma (aeu:=aeu) (x:=(p.1.gZ 0 d).gi 0) ap h0 0 (n:=1) ⟨#[]⟩ ⟨by decide,by decide⟩;rw[show ((p.1.gZ 0 d).gi 0).nr=1 from hp.nr] at a3;refine⟨?_,g3,hp.ok,hp.len,hp.nr,hp.na⟩;refine l4.ok (x':=p.1.gZ 0 d) a1 hi (show (0:Nat)<18446744073709551616 by decide) ?_;refine l4.ok (x':=(p.1.gZ 0 d).gi 0) a2 rfl (show (0:Nat)<18446744073709551616 by decide) ?_;refine l4.ok (x':=oD p.1 d) a3 rfl (show (0:Nat)<18446744073709551616 by decide) ?_;exact l4.nil _ _
def SW.begun:SW (kn 1 1).1 [] jy.new 1 100 0 [] [] [] [] 100 []∧(kn 1 1).2=ja.new:=by
 obtain⟨I,Z⟩:=SR.begin_;have X:(Wl.new 1 1).gY 0=(Wl.new 1 1).rF 0 ((Rp.open_ 0 1 []).lead).1:=by show ((Wl.new 1 1).rF 0 ((Rp.open_ 0 1 []).lead).1).send 0 ((Rp.open_ 0 1 []).lead).2=_;rw[Z];rfl
 have hn:((Wl.new 1 1).gY 0).net.length=0:=by rw[X];rfl
 unfold kn;rw[m8 (-1) (d:=⟨0,(Wl.new 1 1).gY 0,ja.new,none⟩) hn];refine⟨?_,rfl⟩;show SW ((Wl.new 1 1).gY 0) _ _ _ _ _ _ _ _ _ _ _;rw[X];refine⟨rfl,rfl,rfl,rfl,?_,SA.new⟩;show SR (at_ (Wl.new 1 1).rp 0 _ 0) _ _ _ _;rw[ox];exact I
def xe:((kn 1 1).1.rp 0).leads=true:=SW.begun.1.rp.leads
def Wt{s:Nat}{p:WS}(L:St V w0 (nZ aeu s p++l) w)(hp:ip p 1 1 M aev)(hM:M<=1000000)(hL:aev<=900000)(h:SW p.1 es ms aeq Bd n [] [] [] [] B [])(hd:DS d)(hd2:d.2<=9223372036854775807)(hn:n<900000)(hB:B<=900000):(dF N 28 #[aeu,s,J 1,aX d.1,J d.2] w λe O=>e=b5 (aY true)∧St V w0 (nZ aeu s (uZ d p)++l) O)∧ip (uZ d p) 1 1 (M+1) (aev+400):=by
 obtain⟨hr,H⟩:=S_ (aeu:=aeu) hp hM h hd hd2 hn hB;have hq:ip (uZ d p) 1 1 (M+1) (aev+400):=by unfold uZ;exact H.dr4
 refine⟨?_,hq⟩;have a4Z:(oD p.1 d).Good (M+1):=H.good;have fp:=hp.len;have hG:=a0b w (λ_=>False) aeu s (M+1) p.1 (oD p.1 d) p.2 p.2 1 (d.2:Int) d.1 hr hp.ok hp.ok a4Z ap ap;have e:=H9 d p;generalize fh (-1) 400 ⟨0,oD p.1 d,p.2,none⟩=R at hG e;rw[e];have:=St.call (a:=nZ aeu s p) (a':=λ(_:Unit)=>nZ aeu s (R.x,R.s)) L (λ_=>qo _ _ _) L.no hG;exact this.mono λe O ⟨_,I,Z⟩=>⟨I,Z⟩
set_option maxRecDepth 100000
set_option maxHeartbeats 1000000
def lw:ByteArray:=⟨#[97,61,49]⟩
def pA1:aev.gl lw=0:=by decide +kernel
def dA7:DS (lw,7):=⟨pA1,⟨by decide,by decide⟩,by decide⟩
def sA7:(ey jy.new (mI 1 (lw,7) 0)).1=((1:Nat):Int)∧(ey jy.new (mI 1 (lw,7) 0)).2.1=0:=by constructor<;>decide +kernel
def He{s:Nat}{p:WS}(L:St V w0 (nZ aeu s p++l) w)(hp:ip p nr na M aev)(hL:aev<=1000000):dF N 36 #[s] w λe O=>∃(A:aU)(c:Nat),e=b5 (Y A p.2.ak.length c)∧St V w0 (.o (rJ (Y A p.2.ak.length c) p.2.ak)::(nZ aeu s p++l)) O:=by have I:St V w0 ([.o (g9 s p.2)]++(.o (iP aeu p.1)::l)) w:=L.front 1 rfl;have:=St.call (a:=[.o (g9 s p.2)]) (b := .o (iP aeu p.1)::l) I (a':=λj:Option dG×Nat=>[Bl.o (rJ (Y j.1 p.2.ak.length j.2) p.2.ak),Bl.o (g9 s p.2)]) (λ_=>⟨rJ.framed _ _,g9.framed _ _,trivial⟩) I.no (KA w (λ_=>False) s p.2 (by have:=hp.len;omega));exact this.mono λe O ⟨j,I,Z⟩=>⟨j.1,j.2,I,Z.perm (List.Perm.cons _ (List.Perm.swap _ _ _))⟩
def Wu(w:G):Lw N (λ_=>False) 24 #[] [] (λ(_:Unit)e=>e=b5 (aY true)) (λ_=>[]) w:=by
 intro V hM hV;have fY:St V w ([]++[]) w:=St.begin_ hM (λb hb=>(hV b hb).1) trivial;have hB:=St.call (a:=[]) (b:=[]) fY (a':=λi:Nat×Nat=>nZ i.1 i.2 (kn 1 1)) (λ_=>qo _ _ _) fY.no (Mc w 1 1 am am am xe);have hB:dF N 26 #[J 1,J 1] w _:=hB;obtain⟨p,HP⟩:=az (kn 1 1);have hp:=Ax (nr:=1) (na:=1) am am;have hw:=SW.begun;rw[<-HP.out] at hB hp hw;obtain⟨tg,g1,g2⟩:=hw.1.give dA7 am (bo _) am am (AA hp am) (c:=1) sA7.1 (.inl rfl) sA7.2;go_in;go_wp2_with fail;refine hB.mono ?_;rintro e w1 ⟨⟨aeu,s⟩,rfl,eC⟩;have eC:St V w (nZ aeu s p++[]) w1:=eC;obtain⟨hG,hq⟩:=Wt eC hp am am hw.1 dA7 am am am;have hG:dF N 28 #[aeu,s,J 1,aX ⟨#[97,61,49]⟩,J 7] w1 _:=hG;obtain⟨q,HQ⟩:=az (uZ (lw,7) p);rw[<-HQ.out] at hG hq g1;have fp:q.2.ak.length=1:=by rw[g1,hw.2];rfl
 go_wp2_with fail;refine hG.mono ?_;rintro e w2 ⟨rfl,ec⟩;have hA:=He ec hq am;rw[fp] at hA;go_wp2_with fail;refine hA.mono ?_;rintro e w3 ⟨A,c,rfl,eh⟩;go_wp2;go_ret;obtain⟨r1,r2⟩:=(St.drop (St.drop (St.drop eh))).fin;exact⟨(),rfl,r1,r2⟩
structure Au where
 (now tag c at_:Nat)
def Au.due(u:Au):Bool:=decide (u.c=0)||decide (u.at_<=u.now+1)
def Au.next(u:Au):Au:=if u.due then ⟨u.now+1,u.tag+1,u.c+1,u.now+1+sP (u.tag+1) u.c⟩ else ⟨u.now+1,u.tag,u.c,u.at_⟩
def Au.run:Nat->Au->List Nat->Au×List Nat
 | 0,u,l=>(u,l)
 | r+1,u,l=>Au.run r u.next (if u.due then l++[u.tag+1] else l)
def Hh(n c at_:Nat):List (lZ×(Nat×Nat)):=if c=0 then [] else [(l5 n,(c,at_))]
def wk(n:Nat)(gs:aQ):List (Int×lZ):=gs.map λg:Nat=>((g:Int),l5 n)
def EG(n:Nat)(d:Dl)(gs:aQ):Sends:=gs.map λg=>((0:Int),gH (mI n d g))
namespace SA
variable{a:Ag}{q:List aes.Ab}{ask:List (Int×lZ)}
def Wv(h:SA a n eW [] tr ask B)(out:Sends):a.mG out=({ a with now:=a.now+1 },out):=by
 have hz:∀k,k<4->((({ a with now:=a.now+1 }:Ag).b.qu k).l.take 4)=[]:=λk K=>by
  show (a.b.qu k).l.take 4=[];by_cases h0:k=0;·subst h0;rw[h.SS];rfl
  ·rw[h.quk (k:=k) ap];rfl
 show Ag.gu [0,1,2,3] { a with now:=a.now+1 } out=_;show Ag.gu [1,2,3] (Ag.fu 0 (((({ a with now:=a.now+1 }:Ag).b.qu 0).l.take 4)) _ out).1 (Ag.fu 0 (((({ a with now:=a.now+1 }:Ag).b.qu 0).l.take 4)) _ out).2=_;rw[hz 0 am];show Ag.gu [2,3] (Ag.fu 1 (((({ a with now:=a.now+1 }:Ag).b.qu 1).l.take 4)) _ out).1 (Ag.fu 1 (((({ a with now:=a.now+1 }:Ag).b.qu 1).l.take 4)) _ out).2=_;rw[hz 1 am];show Ag.gu [3] (Ag.fu 2 (((({ a with now:=a.now+1 }:Ag).b.qu 2).l.take 4)) _ out).1 (Ag.fu 2 (((({ a with now:=a.now+1 }:Ag).b.qu 2).l.take 4)) _ out).2=_;rw[hz 2 am];show Ag.gu [] (Ag.fu 3 (((({ a with now:=a.now+1 }:Ag).b.qu 3).l.take 4)) _ out).1 (Ag.fu 3 (((({ a with now:=a.now+1 }:Ag).b.qu 3).l.take 4)) _ out).2=_;rw[hz 3 am];rfl
def Ka(h:SA a n eW q tr ask B)(m:Nat):SA { a with now:=m } n eW q tr ask B:=⟨h.node,h.f9,h.last,h.ep,h.eW,h.sh,h.q,h.tr,h.ask,h.bs⟩
theorem Hk:∀(r:Nat){a:Ag}(out:Sends),SA a n eW [] tr ask B->SA (a.gv r out).1 n eW [] tr ask B∧(a.gv r out).2=out
 | 0,_,_,h=>⟨h,rfl⟩
 | r+1,a,out,h=>by
   unfold Ag.gv;rw[h.Wv out];exact Hk r out (h.Ka _)
def T0{κ α:Type}[DecidableEq κ]{l:List (κ×α)}{k:κ}{v:α}(h:k ∉ l.map Prod.fst):tD l k v=l++[(k,v)]:=aB h
def Ww{u:Au}{gs:aQ}(h:SA a n eW [((n:Int),[d])] (Hh n u.c u.at_) (wk n gs) B)(I:a.now=u.now)(Z:a.tag=u.tag)(H:∀g∈gs,g<=u.tag)(out:Sends):SA (a.mG out).1 n eW [((n:Int),[d])] (Hh n u.next.c u.next.at_) (wk n (if u.due then gs++[u.tag+1] else gs)) B∧(a.mG out).1.now=u.next.now∧(a.mG out).1.tag=u.next.tag∧(a.mG out).2=out++(if u.due then EG n d [u.tag+1] else []):=by
 obtain⟨b,HB⟩:=az (({ a with now:=a.now+1 }:Ag));have hb:SA b n eW [((n:Int),[d])] (Hh n u.c u.at_) (wk n gs) B:=by rw[HB.out];exact h.Ka _
 have B1:b.now=u.now+1:=by rw[HB.out];show a.now+1=_;rw[I]
 have Df:b.tag=u.tag:=by rw[HB.out];exact Z
 have AV:(b.b.qu 0).l.take 4=[((n:Int),[d])]:=by rw[hb.SS];rfl
 have hid:b.jm 0 (n:Int)=l5 n:=by show ((b.node:Int),((0:Nat):Int),(n:Int))=_;rw[hb.node];rfl
 have XZ:b.tries (l5 n)=if u.c=0 then (0,0) else (u.c,u.at_):=by
  show (r_ b.tr (l5 n)).getD (0,0)=_;rw[hb.tr];unfold Hh;split;·rfl
  ·unfold r_;simp
 have a4a:((b.tries (b.jm 0 (n:Int))).1=0∨(b.tries (b.jm 0 (n:Int))).2<=b.now)↔u.due=true:=by
  rw[hid,XZ,B1];unfold Au.due;by_cases h0:u.c=0;·simp[h0]
  ·simp[h0]
 have hE:b.uR (l5 n) [d]=mI n d (u.tag+1):=by show (⟨1,1,0,(n:Int),b.b.ep,[d],⟨#[]⟩,(b.node:Int),((b.tag+1:Nat):Int)⟩:En)=_;rw[hb.ep,hb.node,Df];rfl
 have Is:∀m,b.to m=0:=λm=>by show (b.last+m) % b.f9=0;rw[hb.f9];exact Nat.mod_one _
 by_cases hd:u.due=true
 ·obtain⟨c,HC⟩:=az (b.send (l5 n) (b.tries (l5 n)))
  have lb:Ag.fu 0 [((n:Int),[d])] b out=(c,out++EG n d [u.tag+1]):=by show (if (b.tries (b.jm 0 (n:Int))).1=0∨(b.tries (b.jm 0 (n:Int))).2<=b.now then _ else _)=_;rw[aA (a4a.2 hd)];show (b.send (b.jm 0 (n:Int)) (b.tries (b.jm 0 (n:Int))),out++[(((b.to (b.tries (b.jm 0 (n:Int))).1:Nat):Int),gH (b.uR (b.jm 0 (n:Int)) [d]))])=_;rw[hid,Is,hE,HC.out];rfl
  have Ik:c.b=b.b:=by rw[HC.out];rfl
  have lD:∀k,k=1∨k=2∨k=3->(c.b.qu k).l.take 4=[]:=λk K=>by rw[Ik,hb.quk K];rfl
  have KH:a.mG out=(c,out++EG n d [u.tag+1]):=by show Ag.gu [0,1,2,3] { a with now:=a.now+1 } out=_;rw[<-HB.out];show Ag.gu [1,2,3] (Ag.fu 0 ((b.b.qu 0).l.take 4) b out).1 (Ag.fu 0 ((b.b.qu 0).l.take 4) b out).2=_;rw[AV,lb];show Ag.gu [2,3] (Ag.fu 1 ((c.b.qu 1).l.take 4) c _).1 (Ag.fu 1 ((c.b.qu 1).l.take 4) c _).2=_;rw[lD 1 (by simp)];show Ag.gu [3] (Ag.fu 2 ((c.b.qu 2).l.take 4) c _).1 (Ag.fu 2 ((c.b.qu 2).l.take 4) c _).2=_;rw[lD 2 (by simp)];show Ag.gu [] (Ag.fu 3 ((c.b.qu 3).l.take 4) c _).1 (Ag.fu 3 ((c.b.qu 3).l.take 4) c _).2=_;rw[lD 3 (by simp)];rfl
  have EX:u.next=⟨u.now+1,u.tag+1,u.c+1,u.now+1+sP (u.tag+1) u.c⟩:=aA hd;rw[KH,EX,aA hd,aA hd];have htc:(b.tries (l5 n)).1=u.c:=by
   rw[XZ];split;·next h0=>rw[h0]
   ·rfl
  refine⟨⟨?_,?_,?_,?_,?_,?_,?_,?_,?_,?_⟩,?_,?_,rfl⟩;·rw[HC.out];exact hb.node
  ·rw[HC.out];exact hb.f9
  ·rw[HC.out];exact hb.last
  ·show c.b.ep=1;rw[Ik];exact hb.ep
  ·show c.b.eW=_;rw[Ik];exact hb.eW
  ·show c.b.sh=1;rw[Ik];exact hb.sh
  ·show c.b.q=_;rw[Ik];exact hb.q
  ·rw[HC.out]
   show tD b.tr (l5 n) ((b.tries (l5 n)).1+1,b.now+sP (b.tag+1) (b.tries (l5 n)).1)=_;rw[htc,B1,Df,hb.tr];unfold Hh;rw[aB (show ¬ (u.c+1=0) by omega)];split;·rfl
   ·simp[tD]
  ·rw[HC.out]
   show tD b.ask ((b.tag+1:Nat):Int) (l5 n)=_;rw[hb.ask,Df,T0];·unfold wk;rw[bM];rfl
   ·intro hm
    unfold wk at hm;rw[List.map_map] at hm;obtain⟨g,eO,fN⟩:=List.mem_map.1 hm;have:=H g eO;have fN:(g:Int)=((u.tag+1:Nat):Int):=fN;omega
  ·rw[HC.out];exact hb.bs
  ·rw[HC.out];exact B1
  ·rw[HC.out];show b.tag+1=_;rw[Df]
 ·have lb:Ag.fu 0 [((n:Int),[d])] b out=(b,out):=by
   show (if (b.tries (b.jm 0 (n:Int))).1=0∨(b.tries (b.jm 0 (n:Int))).2<=b.now then _ else _)=_;rw[aB (λh=>hd (a4a.1 h))];rfl
  have lD:∀k,k=1∨k=2∨k=3->(b.b.qu k).l.take 4=[]:=λk K=>by rw[hb.quk K];rfl
  have KH:a.mG out=(b,out):=by show Ag.gu [0,1,2,3] { a with now:=a.now+1 } out=_;rw[<-HB.out];show Ag.gu [1,2,3] (Ag.fu 0 ((b.b.qu 0).l.take 4) b out).1 (Ag.fu 0 ((b.b.qu 0).l.take 4) b out).2=_;rw[AV,lb];show Ag.gu [2,3] (Ag.fu 1 ((b.b.qu 1).l.take 4) b _).1 (Ag.fu 1 ((b.b.qu 1).l.take 4) b _).2=_;rw[lD 1 (by simp)];show Ag.gu [3] (Ag.fu 2 ((b.b.qu 2).l.take 4) b _).1 (Ag.fu 2 ((b.b.qu 2).l.take 4) b _).2=_;rw[lD 2 (by simp)];show Ag.gu [] (Ag.fu 3 ((b.b.qu 3).l.take 4) b _).1 (Ag.fu 3 ((b.b.qu 3).l.take 4) b _).2=_;rw[lD 3 (by simp)];rfl
  have EX:u.next=⟨u.now+1,u.tag,u.c,u.at_⟩:=aB hd
  rw[KH,EX,aB hd,aB hd,bm]
  exact⟨hb,B1,Df,rfl⟩
theorem ticks{d:Dl}:∀(r:Nat){a:Ag}{u:Au}{gs:aQ}(out:Sends),SA a n eW [((n:Int),[d])] (Hh n u.c u.at_) (wk n gs) B->a.now=u.now->a.tag=u.tag->(∀g∈gs,g<=u.tag)->out=EG n d gs->
 SA (a.gv r out).1 n eW [((n:Int),[d])] (Hh n (u.run r gs).1.c (u.run r gs).1.at_) (wk n (u.run r gs).2) B∧(a.gv r out).2=EG n d (u.run r gs).2
 | 0,_,_,_,_,h,_,_,_,ho=>⟨h,ho⟩
 | r+1,a,u,gs,out,h,I,Z,H,ho=>by
   obtain⟨t1,t2,t3,t4⟩:=h.Ww I Z H out;unfold Ag.gv Au.run;refine ticks r _ t1 t2 t3 (λg P0=>?_) ?_
   ·have EX:u.tag<=u.next.tag:=by unfold Au.next;split;exact Nat.le_succ _;exact bh _
    split at P0
    ·next hd=>
     rcases List.mem_append.1 P0 with P0|P0
     ·exact bA (H g P0) EX
     ·rw[List.mem_singleton.1 P0]
      unfold Au.next;rw[aA hd];exact bh _
    ·exact bA (H g P0) EX
   ·rw[t4,ho]
    split;·unfold EG;rw[bM]
    ·rw[bm]
end SA
def a8P:(Au.run 48 ⟨0,4294967296,0,0⟩ []).2=[4294967297,4294967298,4294967299,4294967300]:=by decide +kernel
end Go.Proofs.YtpeepcmdehhbgaaGreatDoor
