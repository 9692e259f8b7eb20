/- Sy3. -/
import Derived.Test.YtpeepcmdehhbgaaGreatDoorJs40
set_option linter.all false
set_option maxRecDepth 100000
open Go.Value renaming int->ae,slice->Z,string->aX,bool->aY,agg->aZ,tuple->a_
open Go.Ending renaming returned->b5
open Go.IntKind renaming i64->af,u64->ah
open Go (J az aE aA aB aC aD ay aj am ap aw aL aK aJ aI aH aV aU aT aR aQ aP aO aN)
open List renaming length_append->bd,length_singleton->bv,length_cons->bD,mem_cons_of_mem->bR,mem_cons->cI
open Nat renaming le_refl->bh
namespace Go.Proofs.YtpeepcmdehhbgaaGreatDoor
open RowKit Hop V
def mY(x:I3):List I3->List I3
 | []=>[x]
 | y::l=>if x=y then y::l else if CI x y=true then x::y::l else y::mY x l
def PQ(l:List I3):List I3:=l.foldr mY []
def zv(l:List I3):Prop:=l.Pairwise λa b=>CI a b=true
theorem Cl(x:I3):CI x x=false:=by rw[xR];omega
theorem uQ{x y z:I3}(h:CI x y=true)(h':CI y z=true):CI x z=true:=by rw[tq] at *;omega
theorem JI{x y:I3}(h:x≠y)(h':CI x y=false):CI y x=true:=by rw[xR] at h';rw[tq];have:¬ (x.1=y.1∧x.2.1=y.2.1∧x.2.2=y.2.2):=λ⟨a,b,c⟩=>h (Prod.ext a (Prod.ext b c));omega
theorem tO(x z:I3):∀l:List I3,z∈mY x l↔z=x∨z∈l
 | []=>by simp[mY]
 | y::l=>by
   unfold mY;split;·next h=>subst h;simp
   ·split
    ·simp
    ·rw[cI,tO x z l,cI]
     constructor
     ·rintro (h|h|h)
      ·exact .inr (.inl h)
      ·exact .inl h
      ·exact .inr (.inr h)
     ·rintro (h|h|h)
      ·exact .inr (.inl h)
      ·exact .inl h
      ·exact .inr (.inr h)
theorem qy(x:I3):∀{l:List I3},zv l->zv (mY x l)
 | [],_=>List.pairwise_singleton _ _
 | y::l,h=>by
   obtain⟨I,G⟩:=List.pairwise_cons.1 h;unfold mY;split;·exact h
   ·next jT=>
    split
    ·next fS=>exact List.pairwise_cons.2 ⟨λz hz=>by
      rcases List.mem_cons.1 hz with rfl|hz
      ·exact fS
      ·exact uQ fS (I z hz),h⟩
    ·next fS=>
     refine List.pairwise_cons.2 ⟨λz hz=>?_,qy x G⟩;rcases (tO x z l).1 hz with rfl|hz
     ·exact JI jT (by simpa using fS)
     ·exact I z hz
theorem Cm:∀l:List I3,zv (PQ l)
 | []=>List.Pairwise.nil
 | x::l=>qy x (Cm l)
theorem Cn(z:I3):∀l:List I3,z∈PQ l↔z∈l
 | []=>by simp[PQ]
 | x::l=>by
   show z∈mY x (PQ l)↔_;rw[tO,Cn z l,cI]
theorem vW:∀{a b:List I3},zv a->zv b->(∀z,z∈a↔z∈b)->a=b
 | [],[],_,_,_=>rfl
 | [],y::b,_,_,h=>absurd ((h y).2 (by simp)) (by simp)
 | x::a,[],_,_,h=>absurd ((h x).1 (by simp)) (by simp)
 | x::a,y::b,ha,hb,h=>by
   obtain⟨a1,a2⟩:=List.pairwise_cons.1 ha;obtain⟨b1,b2⟩:=List.pairwise_cons.1 hb;have e:x=y:=by
    rcases List.mem_cons.1 ((h x).1 (by simp)) with e|e
    ·exact e
    ·rcases List.mem_cons.1 ((h y).2 (by simp)) with e2|e2
     ·exact e2.symm
     ·have:=uQ (a1 y e2) (b1 x e)
      rw[Cl] at this;cases this
   subst e;rw[vW a2 b2 λz=>?_];constructor
   ·intro hz
    rcases List.mem_cons.1 ((h z).1 (by simp[hz])) with e|e
    ·subst e
     have:=a1 z hz;rw[Cl] at this;cases this
    ·exact e
   ·intro hz
    rcases List.mem_cons.1 ((h z).2 (by simp[hz])) with e|e
    ·subst e
     have:=b1 z hz;rw[Cl] at this;cases this
    ·exact e
theorem PR(z:I3):∀(l:List I3)(p:I3),z∈l->z=p∨z∈dd p l
 | [],_,h=>by simp at h
 | x::l,p,h=>by
   unfold dd;rcases List.mem_cons.1 h with rfl|h
   ·split
    ·next e=>exact .inl e
    ·exact .inr (by simp)
   ·rcases PR z l x h with rfl|h
    ·split
     ·next e=>exact .inl e
     ·exact .inr (by simp)
    ·split
     ·exact .inr h
     ·exact .inr (by simp[h])
theorem Ib:∀(l:List I3)(p z:I3),z∈dd p l->z∈l
 | [],_,_,h=>h
 | x::l,p,z,h=>by
   unfold dd at h;split at h;·exact bR _ (Ib l x z h)
   ·rcases List.mem_cons.1 h with rfl|h
    ·simp
    ·exact bR _ (Ib l x z h)
theorem Tz(l:List I3)(z:I3):z∈Wt l↔z∈l:=by
 cases l with
 | nil=>rfl
 | cons x l=>
   show z∈x::dd x l↔_;constructor
   ·intro h
    rcases List.mem_cons.1 h with rfl|h
    ·simp
    ·exact bR _ (Ib l x z h)
   ·intro h
    rcases List.mem_cons.1 h with rfl|h
    ·simp
    ·rcases PR z l x h with rfl|h
     ·simp
     ·simp[h]
theorem PS:∀(l:List I3)(p:I3),(p::l).Pairwise (λa b=>CI b a=false)->zv (p::dd p l)
 | [],p,_=>List.pairwise_singleton _ _
 | x::l,p,h=>by
   obtain⟨I,G⟩:=List.pairwise_cons.1 h;have ih:=PS l x G;obtain⟨i1,i2⟩:=List.pairwise_cons.1 ih;unfold dd;split;·next e=>subst e;exact ih
   ·next e=>
    have Y:CI p x=true:=JI e (I x (by simp));exact List.pairwise_cons.2 ⟨λz hz=>by
     rcases List.mem_cons.1 hz with rfl|hz
     ·exact Y
     ·exact uQ Y (i1 z hz),ih⟩
theorem TA{l:List I3}(h:l.Pairwise λa b=>CI b a=false):zv (Wt l):=by
 cases l with
 | nil=>exact List.Pairwise.nil
 | cons x l=>exact PS l x h
theorem XE{l m:List I3}(hp:l.Perm m)(h:l.Pairwise λa b=>CI b a=false):Wt l=PQ m:=vW (TA h) (Cm m) λz=>by rw[Tz,Cn,hp.mem_iff]
theorem JJ{l:List I3}(h:zv l)(x:I3):PQ (l++[x])=mY x l:=vW (Cm _) (qy x h) λz=>by rw[Cn,tO,List.mem_append,List.mem_singleton,Or.comm]
theorem yB(x:I3):∀l:List I3,(mY x l).length<=l.length+1
 | []=>bh _
 | y::l=>by
   have:=yB x l;unfold mY;split;·simp
   ·split
    ·simp
    ·simp only[bD];omega
structure iN where
 (ak rf:List I3) (rd:aQ)
def iN.new:iN:=⟨[],[],[]⟩
structure iN.Ok(s:iN):Prop where
 ak:zv s.ak
 rf:zv s.rf
 rd:∀n∈s.rd,n<18446744073709551616
def iN.add(s:iN)(k:Int)(e:Ev):iN:=if k≠2∨e.why≠0 then s else if e.code=1∨e.code=2 then { s with ak:=mY e.id s.ak } else if e.code=3 then { s with rf:=mY e.id s.rf } else if e.code=8 then { s with rd:=s.rd++[e.n] } else s
theorem iN.Ok.new:iN.new.Ok:=⟨List.Pairwise.nil,List.Pairwise.nil,λ_ h=>by simp[iN.new] at h⟩
theorem iN.Ok.add{s:iN}(h:s.Ok)(k:Int){e:Ev}(he:e.n<18446744073709551616):(s.add k e).Ok:=by
 unfold iN.add;repeat' split
 ·exact h
 ·exact⟨qy _ h.ak,h.rf,h.rd⟩
 ·exact⟨h.ak,qy _ h.rf,h.rd⟩
 ·exact⟨h.ak,h.rf,λn hn=>by
   rcases List.mem_append.1 hn with hn|hn
   ·exact h.rd n hn
   ·rw[List.mem_singleton.1 hn];exact he⟩
 ·exact h
def iN.len(s:iN):Nat:=s.ak.length+s.rf.length+s.rd.length
theorem iN.nA(s:iN)(k:Int)(e:Ev):(s.add k e).len<=s.len+1:=by
 have I:=yB e.id s.ak;have G:=yB e.id s.rf;unfold iN.add iN.len;repeat' split
 all_goals try simp only[bd,bv]
 all_goals omega
end Go.Proofs.YtpeepcmdehhbgaaGreatDoor
