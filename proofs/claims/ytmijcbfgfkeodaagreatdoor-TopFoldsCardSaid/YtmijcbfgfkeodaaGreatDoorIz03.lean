/- Cplain, Smap, Csum, Cmayp, Cref. -/
import Derived.Test.YtmijcbfgfkeodaaGreatDoorIz02
import Derived.Sort.Walk0
import Derived.Maps.OwnSet
import Derived.Maps.RangeWalk
import Derived.StringKeys
set_option linter.all false
set_option maxRecDepth 100000
open Go.Value renaming int → ae,slice → ai
open Go.IntKind renaming i64 → af,u64 → ah
open Go.Proofs.Tryz renaming prog → au
open Nat renaming le_refl → aC,zero_le → aZ
open List renaming length_append → aD,take_succ_eq_append_getElem → aI,length_cons → aL,length_map → aP,nil_append → aR,take_succ_cons → aV,mem_cons_of_mem → bb,map_cons → bg,mem_cons_self → bq,take_zero → bw,cons_append → bA
open Bool renaming and_eq_true → aS
section
namespace Go.Proofs.YtmijcbfgfkeodaaGreatDoor.K
open Go.RowKit Go.Hop
def slt (a b:ByteArray):Bool:=Op.bytesLess a.toList b.toList
theorem lC (a b:ByteArray):slt a b=decide (a.data.toList<b.data.toList):=by
 unfold slt
 rw[bytesLess_eq,Lib.toList_data,Lib.toList_data]
theorem gT (a:ByteArray):slt a a=false:=by
 rw[lC];exact decide_eq_false (List.lt_irrefl _)
theorem lD {a b c:ByteArray} (h:slt a b=true) (k:slt b c=true):slt a c=true:=by
 rw[lC] at *
 exact decide_eq_true (List.lt_trans (of_decide_eq_true h) (of_decide_eq_true k))
theorem jF {a b:ByteArray} (h:slt a b=false) (k:slt b a=false):a=b:=by
 rw[lC] at *
 have h1:=of_decide_eq_false h
 have h2:=of_decide_eq_false k
 have e:a.data.toList=b.data.toList:=List.le_antisymm (List.not_lt.1 h2) (List.not_lt.1 h1)
 exact ByteArray.ext (Array.toList_inj.1 e)
theorem rI {a b:ByteArray} (h:slt a b=true):slt b a=false:=by
 cases hb:slt b a with
 | false=>rfl
 | true=>have:=lD h hb;rw[gT] at this;cases this
theorem rJ {a b:ByteArray}:a.toList=b.toList↔a=b:=by
 rw[Lib.toList_data,Lib.toList_data]
 exact⟨fun e=>ByteArray.ext (Array.toList_inj.1 e),fun e=>by rw[e]⟩
abbrev Sm:=List Dl
def lk (q:Sm) (x:ByteArray):Option Nat:=(q.find? fun d=>decide (d.1=x)).map (·.2)
def gt (q:Sm) (x:ByteArray):Nat:=(lk q x).getD 0
def GV (q:Sm):Prop:=q.Pairwise fun a b=>slt a.1 b.1=true
def yF (q:Sm) (x:ByteArray):Sm:=q.takeWhile fun d=>slt d.1 x
def lE (q:Sm) (x:ByteArray):Sm:=q.dropWhile fun d=>slt d.1 x
def put (q:Sm) (x:ByteArray) (v:Nat):Sm:=if (lk q x).isSome then q.map fun d=>if d.1=x then (x,v) else d else yF q x++(x,v) :: lE q x
theorem GX (x:ByteArray):lk [] x=none:=rfl
theorem jG (d:Dl) (q:Sm) (x:ByteArray):lk (d :: q) x=if d.1=x then some d.2 else lk q x:=by
 unfold lk
 rw[List.find?_cons]
 by_cases h:d.1=x<;>simp[h]
theorem qF (a b:Sm) (x:ByteArray):lk (a++b) x=(lk a x).or (lk b x):=by
 unfold lk
 rw[List.find?_append]
 cases a.find? (fun d=>decide (d.1=x))<;>simp
theorem rK {q:Sm} {x:ByteArray}:lk q x=none↔∀ d∈q,d.1≠x:=by
 unfold lk
 simp
theorem vo {q:Sm} {x:ByteArray} {v:Nat} (h:lk q x=some v):(x,v)∈q:=by
 unfold lk at h
 simp only[Option.map_eq_some_iff] at h
 obtain⟨d,hd,rfl⟩:=h
 have h1:=List.mem_of_find?_eq_some hd
 have h2:=List.find?_some hd
 simp only[decide_eq_true_eq] at h2
 rw[←h2];exact h1
theorem od (q:Sm) (x:ByteArray):yF q x++lE q x=q:=List.takeWhile_append_dropWhile
theorem xP {q:Sm} {x:ByteArray}:∀ d∈yF q x,slt d.1 x=true:=fun d hd=>by
 unfold yF at hd
 exact List.all_eq_true.1 List.all_takeWhile d hd
theorem EG {q:Sm} (hs:GV q) {x:ByteArray}:∀ d∈lE q x,slt d.1 x=false:=by
 induction q with
 | nil=>intro d hd;simp[lE] at hd
 | cons a q ih=>
   intro d hd
   unfold lE at hd
   rw[List.dropWhile_cons] at hd
   have hs':=List.pairwise_cons.1 hs
   split at hd
   ·exact ih hs'.2 d hd
   ·rename_i h
    have ha:slt a.1 x=false:=by simpa using h
    rcases List.mem_cons.1 hd with rfl|hd
    ·exact ha
    ·cases Q7:slt d.1 x with
     | false=>rfl
     | true=>rw[lD (hs'.1 d hd) Q7] at ha;cases ha
theorem rL (q:Sm) (x:ByteArray) (v:Nat) (y:ByteArray):lk (put q x v) y=if y=x then some v else lk q y:=by
 unfold put
 split
 ·rename_i h
  have key:∀ q:Sm,(lk q x).isSome=true→lk (q.map fun d=>if d.1=x then (x,v) else d) y=if y=x then some v else lk q y:=by
   intro q
   induction q with
   | nil=>intro h;simp[lk] at h
   | cons a q ih=>
     intro h
     rw[bg,jG,jG]
     rw[jG] at h
     by_cases ha:a.1=x
     ·rw[if_pos ha]
      by_cases hy:y=x
      ·rw[if_pos hy,if_pos hy.symm]
      ·rw[if_neg hy,if_neg (fun e=>hy e.symm),if_neg (fun e=>hy (by rw[←e,ha]))]
       by_cases hq:(lk q x).isSome=true
       ·rw[ih hq,if_neg hy]
       ·have hn:lk q x=none:=by simpa using hq
        have:(q.map fun d=>if d.1=x then (x,v) else d)=q:=by
         conv=>rhs;rw[←List.map_id q]
         exact List.map_congr_left fun d hd=>by rw[if_neg (rK.1 hn d hd)];rfl
        rw[this]
     ·rw[if_neg ha] at h
      rw[if_neg ha,ih h]
      by_cases hy:y=x
      ·rw[if_pos hy,if_neg (fun e=>ha (e.trans hy)),if_pos hy]
      ·rw[if_neg hy,if_neg hy]
  exact key q h
 ·rename_i h
  have hn:lk q x=none:=by simpa using h
  rw[qF,jG]
  by_cases hy:y=x
  ·rw[if_pos hy,if_pos hy.symm]
   have:lk (yF q x) y=none:=rK.2 fun d hd e=>by
    have:=xP d hd
    rw[e,hy,gT] at this;cases this
   rw[this];rfl
  ·rw[if_neg hy,if_neg (fun e=>hy e.symm),←qF,od]
theorem oI (q:Sm) (x:ByteArray) (v:Nat):(put q x v).length=if (lk q x).isSome then q.length else q.length+1:=by
 unfold put
 split
 ·rw[aP]
 ·rw[aD,aL]
  have:=congrArg List.length (od q x)
  rw[aD] at this
  omega
theorem rM {q:Sm} (hs:GV q) (x:ByteArray) (v:Nat):GV (put q x v):=by
 unfold put
 split
 ·unfold GV
  rw[List.pairwise_map]
  refine List.Pairwise.imp (fun {a b} h=>?_) hs
  have ea:(if a.1=x then ((x,v):Dl) else a).1=a.1:=by split<;>simp_all
  have eb:(if b.1=x then ((x,v):Dl) else b).1=b.1:=by split<;>simp_all
  rw[ea,eb];exact h
 ·rename_i h
  have hn:lk q x=none:=by simpa using h
  have hs2:=hs
  rw[←od q x] at hs2
  obtain⟨h1,h2,h3⟩:=List.pairwise_append.1 hs2
  refine List.pairwise_append.2 ⟨h1,List.pairwise_cons.2 ⟨fun d hd=>?_,h2⟩,fun a ha d hd=>?_⟩
  ·cases hx:slt x d.1 with
   | true=>rfl
   | false=>
     have:=jF hx (EG hs d hd)
     exact absurd this.symm (rK.1 hn d (by rw[←od q x];exact List.mem_append.2 (.inr hd)))
  ·rcases List.mem_cons.1 hd with rfl|hd
   ·exact xP a ha
   ·exact h3 a ha d hd
theorem vp {q:Sm} (hs:GV q) {d:Dl} (hd:d∈q):lk q d.1=some d.2:=by
 induction q with
 | nil=>cases hd
 | cons a q ih=>
   have hs':=List.pairwise_cons.1 hs
   rw[jG]
   rcases List.mem_cons.1 hd with rfl|hd
   ·rw[if_pos rfl]
   ·rw[if_neg (fun e=>by have:=hs'.1 d hd;rw[e,gT] at this;cases this)]
    exact ih hs'.2 hd
end Go.Proofs.YtmijcbfgfkeodaaGreatDoor.K
end
section
namespace Go.Hop
open Go.RowKit Go.Maps Go.WideMaps
structure kz (P:Program) (t k e:TypeId) (qe:IntKind):Prop where
 und:P.underlying t=some (.map k e)
 key:P.underlying k=some .string
 elem:P.underlying e=some (.int qe)
 zero:∀ w,(zeroValue e).run P w=.ok (.int qe 0) w
abbrev yG (l:ByteArray):Lit := .string l.data.toList
theorem vq {a b:ByteArray} (h:yG a=yG b):a=b:=by
 injection h with h
 exact ByteArray.ext (Array.toList_inj.1 h)
def Holds (qe:IntKind) (D:DataW Unit) (f:ByteArray→Option Int):Prop:=∀ l:ByteArray,l.size≤maxLen→has D (yG l)=(f l).isSome∧D.atKey (yG l) (.lit (.int qe 0))=.lit (.int qe ((f l).getD 0))
def SMap (P:Program) (k e:TypeId) (qe:IntKind) (w:World) (b n:Nat) (f:ByteArray→Option Int):Prop:=
 ∃ D:DataW Unit,w.ownsMap P k (plainElem P e) b n D∧Maps.size D=n∧Holds qe D f
section
variable {P:Program} {t k e:TypeId} {qe:IntKind} {w w':World} {b n:Nat} {f:ByteArray→Option Int}
theorem SMap.made (w:World):SMap P k e qe (w.alloc (.map #[] 0)) w.heap.size 0 (fun _=>none):=
 ⟨.map [],World.ownsMap_made w P k _,rfl,fun _ _=>⟨rfl,rfl⟩⟩
theorem SMap.lt (h:SMap P k e qe w b n f):b<w.heap.size:=by
 obtain⟨D,h,_⟩:=h
 exact h.lt
theorem SMap.keep (h:SMap P k e qe w b n f) (hk:w'.heap[b]?=w.heap[b]?):SMap P k e qe w' b n f:=by
 obtain⟨D,⟨es,clock,hb,r⟩,hf⟩:=h
 exact⟨D,⟨es,clock,hk.trans hb,r⟩,hf⟩
theorem SMap.grow (h:SMap P k e qe w b n f) (hg:Grow w w'):SMap P k e qe w' b n f:=h.keep (hg.block b h.lt)
theorem SMap.imp {f':ByteArray→Option Int} (h:SMap P k e qe w b n f) (hf:∀ x:ByteArray,x.size≤maxLen→f' x=f x):SMap P k e qe w b n f':=by
 obtain⟨D,h1,h2,h3⟩:=h
 exact⟨D,h1,h2,fun x hx=>by rw[hf x hx];exact h3 x hx⟩
theorem tc {D:DataW Unit} {R:Value→Option (DataW Unit×List MemPlace)} (h:w.ownsMap P k R b n D):w.ownsMap P k R b (Maps.size D) D:=by
 obtain⟨es,clock,hb,F,hs,rfl⟩:=h
 exact⟨es,clock,hb,F,by simp[Maps.size,length_sorted],rfl⟩
theorem vr (T:kz P t k e qe) {l:ByteArray} (hl:l.size≤maxLen):keyOf P k (.string l)=some (yG l):=keyOf_string_mk T.key hl
theorem SMap.look (T:kz P t k e qe) (h:SMap P k e qe w b n f) (l:ByteArray) (hl:l.size≤maxLen):(Instr.lookup t (.map (some b)) (.string l) true).run P w=.ok (.tuple #[.int qe ((f l).getD 0),.bool (f l).isSome]) w:=by
 obtain⟨D,ho,_,hf⟩:=h
 have hw0:(Lit.int qe 0).wf=true:=by cases qe<;>decide
 obtain⟨v,ps,hrun,hR⟩:=ho.look_ok (string_keyed T.key) T.und (T.zero w) (plainElem_int T.elem hw0) (vr T hl)
 rw[(hf l hl).1,(hf l hl).2] at *
 obtain⟨a,rfl,hz,_⟩:=plainElem_int_inv T.elem hR
 injection hz with hz
 injection hz with hz
 injection hz with _ hz
 rw[hrun,←hz]
theorem SMap.xQ (T:kz P t k e qe) (h:SMap P k e qe w b n f) (l:ByteArray) (hl:l.size≤maxLen):(Instr.lookup t (.map (some b)) (.string l) false).run P w=.ok (.int qe ((f l).getD 0)) w:=by
 obtain⟨D,ho,_,hf⟩:=h
 obtain⟨c,hrun,hat,_⟩:=ho.lookup_int (string_keyed T.key) T.und T.elem (T.zero w) (vr T hl)
 rw[(hf l hl).2] at hat
 injection hat with hz
 injection hz with _ hz
 rw[hrun,hz]
theorem SMap.put (T:kz P t k e qe) (h:SMap P k e qe w b n f) (l:ByteArray) (v:Int) (hl:l.size≤maxLen) (hv:(Lit.int qe v).wf=true) (hn:n<maxLen) :
 ∃ w',(Instr.mapUpdate t (.map (some b)) (.string l) (.int qe v)).run P w=.ok () w'∧SMap P k e qe w' b (if (f l).isSome then n else n+1) (fun y=>if y=l then some v else f y)∧Just (fun c=>c=b) w w':=by
 obtain⟨D,ho,hs,hf⟩:=h
 obtain⟨w',hrun,h2,h3⟩:=ho.update (string_keyed T.key) T.und hn (vr T hl) (plainElem_int T.elem hv)
 have hsz:=size_put (ho.tidy (string_keyed T.key)) (k:=yG l) (.lit (.int qe v))
 rw[(hf l hl).1,hs] at hsz
 have h2:=tc h2
 rw[hsz] at h2
 refine⟨w',hrun,⟨_,h2,hsz,fun y hy=>?_⟩,⟨h3.os,h3.tape,h3.output,h3.size,fun i hi hb=>h3.block i hi (fun e=>hb (by injection e))⟩⟩
 dsimp only
 by_cases hyx:y=l
 ·subst hyx
  rw[if_pos rfl]
  exact⟨has_put_same ho.isMap (by exact trivial) _,atKey_put_same ho.isMap (by exact trivial) _ _⟩
 ·rw[if_neg hyx,has_put_other (fun e=>hyx (vq e)),atKey_put_other (fun e=>hyx (vq e))]
  exact hf y hy
theorem SMap.len (h:SMap P k e qe w b n f) (T:kz P t k e qe) (ty:TypeId):(Builtin.len_ #[t] ty #[.map (some b)]).run P w=.ok (ae af (n:Int)) w:=by
 obtain⟨D,ho,hs,_⟩:=h
 rw[ho.len T.und ty,hs]
def lF (P:Program) (k e:TypeId) (qe:IntKind) (w:World) (b r n:Nat) (f:ByteArray→Option Int) (left:ByteArray→Bool) (cnt:Nat):Prop:=
 ∃ (D:DataW Unit) (lf:Lit→Bool),w.ranges P k (plainElem P e) b r n D lf cnt∧Maps.size D=n∧Holds qe D f∧∀ l:ByteArray,lf (yG l)=left l
theorem lF.left_eq {r cnt:Nat} {left:ByteArray→Bool} (h:lF P k e qe w b r n f left cnt):w.rangeLeft b r=cnt:=by
 obtain⟨D,lf,h1,_⟩:=h
 exact h1.left_eq
theorem SMap.range (T:kz P t k e qe) (h:SMap P k e qe w b n f) :
 ∃ w',(Instr.range t (.map (some b))).run P w=.ok (.pointer (some ⟨w.heap.size,0,none⟩)) w'∧(∃ left,lF P k e qe w' b w.heap.size n f left n∧∀ l:ByteArray,l.size≤maxLen→left l=(f l).isSome)∧Grow w w'∧w'.heap.size=w.heap.size+1:=by
 obtain⟨D,ho,hs,hf⟩:=h
 obtain⟨w',hrun,hr,hg,hsz⟩:=ho.range (string_keyed T.key) T.und
 rw[hs] at hr
 exact⟨w',hrun,⟨fun l=>has D (yG l),⟨D,_,hr,hs,hf,fun _=>rfl⟩,fun l hl=>(hf l hl).1⟩,⟨hg.os,hg.tape,hg.output,hg.size,fun i hi=>hg.block i hi (by simp)⟩,hsz⟩
theorem lF.next (T:kz P t k e qe) {r cnt:Nat} {left:ByteArray→Bool} (h:lF P k e qe w b r n f left cnt) (ty:TypeId) :
 (cnt=0∧(∀ l,left l=false)∧(Instr.next (((r:Nat):Value)) false ty).run P w=.ok (.tuple #[.bool false]) w)∨
 ∃ (l:ByteArray) (v:Int) (w':World) (cnt':Nat),l.size≤maxLen∧left l=true∧f l=some v∧(Lit.int qe v).wf=true∧(Instr.next (((r:Nat):Value)) false ty).run P w=.ok (.tuple #[.bool true,Value.string l,.int qe v]) w'∧
   lF P k e qe w' b r n f (fun z=>left z && decide (z≠l)) cnt'∧cnt'<cnt∧Just (fun c=>c=r) w w'∧(Instr.entry (((r:Nat):Value))).run P w'=.ok (.tuple #[Value.string l,.int qe v]) w':=by
 obtain⟨D,lf,h1,h2,h3,h4⟩:=h
 rcases h1.next (string_keyed T.key) ty with ⟨h0,hl,hrun⟩|⟨key,v,kl,y,w',cnt',hkey,hlk,hv,hat,hrun,hrg,hlt,hgr,hsz,hen⟩
 ·exact .inl ⟨h0,fun l=>by rw[←h4];exact hl _,hrun⟩
 ·obtain⟨s,rfl,rfl,hsl⟩:=string_of_keyOf T.key hkey
  obtain⟨c,rfl,hz,hw⟩:=plainElem_int_inv T.elem hv
  have hb:=(h3 _ hsl).1
  rw[has_true_of_atKey hat] at hb
  have hget:=(h3 _ hsl).2
  rw[hat] at hget
  obtain⟨v0,hv0⟩:=Option.isSome_iff_exists.1 hb.symm
  rw[hv0,hz] at hget
  injection hget with hget
  injection hget with _ hget
  simp only[Option.getD_some] at hget
  refine .inr ⟨s,c,w',cnt',hsl,by rw[←h4];exact hlk,by rw[hv0,hget],hw,hrun,⟨D,_,hrg,h2,h3,fun z=>?_⟩,hlt,⟨hgr.os,hgr.tape,hgr.output,hgr.size,fun i hi hn=>hgr.block i hi (fun e=>hn (by injection e))⟩,hen⟩
  show (lf (yG z) && !(yG z).sameKey (yG s))=(left z && decide (z≠s))
  rw[h4]
  congr 1
  by_cases hz:z=s
  ·subst hz
   rw[WideAt.sameKey_self (by exact trivial)]
   simp
  ·have:(yG z).sameKey (yG s)=false:=sameKey_ne (fun e=>hz (vq e))
   rw[this]
   simp[hz]
end
end Go.Hop
end
section
namespace Go.Proofs.YtmijcbfgfkeodaaGreatDoor.K
open Go.RowKit Go.Hop
theorem EH:kz au 213 9 27 .u64:=⟨Tryz.underlying213,Tryz.underlying9,Tryz.underlying27,fun w=>by kernel_rfl⟩
def kc:Nat:=18446744073709551615
def fq (q:Sm) (x:ByteArray):Option Int:=(lk q x).map fun v=>(v:Int)
theorem rN (q:Sm) (x:ByteArray):(fq q x).getD 0=((gt q x:Nat):Int):=by
 unfold fq gt
 cases lk q x<;>rfl
theorem rO (q:Sm) (x:ByteArray):(fq q x).isSome=(lk q x).isSome:=by
 unfold fq
 cases lk q x<;>rfl
theorem GY (q:Sm) (x:ByteArray) (v:Nat):(fun y=>if y=x then some (v:Int) else fq q y)=fq (put q x v):=by
 funext y
 unfold fq
 rw[rL q]
 split<;>rfl
structure Right (q:Sm):Prop where
 nG:GV q
 num:∀ d∈q,d.2≤kc
 txt:∀ d∈q,d.1.size≤maxLen
theorem Right.gt {q:Sm} (h:Right q) (x:ByteArray):gt q x≤kc:=by
 unfold Proofs.YtmijcbfgfkeodaaGreatDoor.K.gt
 cases hx:lk q x with
 | none=>exact aZ _
 | some v=>exact h.num _ (vo hx)
theorem Right.put {q:Sm} (h:Right q) {x:ByteArray} {v:Nat} (hx:x.size≤maxLen) (hv:v≤kc):Right (put q x v):=by
 refine⟨rM h.nG x v,fun d hd=>?_,fun d hd=>?_⟩
 ·have:=vp (rM h.nG x v) hd
  rw[rL q] at this
  split at this
  ·injection this with this;rw[←this];exact hv
  ·exact h.num _ (vo this)
 ·have:=vp (rM h.nG x v) hd
  rw[rL q] at this
  split at this
  ·rename_i e;rw[e];exact hx
  ·exact h.txt _ (vo this)
theorem qG:Right []:=⟨List.Pairwise.nil,by simp,by simp⟩
def td (w:World) (b:Nat) (q:Sm):Prop:=SMap au 9 27 .u64 w b q.length (fq q)
def ek (s:Nat) (q:Sm):cg:=fun w V=>V s∧Right q∧∃ b,V b∧b≠s∧ct w s 215 #[.map (some b)]∧td w b q
theorem ek.framed (s:Nat) (q:Sm):Framed (ek s q):=fun w w' V h hk=>by
 obtain⟨h1,h2,b,h3,h4,h5,h6⟩:=h
 exact⟨h1,h2,b,h3,h4,(hk s h1).trans h5,h6.keep (hk b h3)⟩
theorem ek.wide {s:Nat} {q:Sm} {w:World} {V V':Nat→Prop} (h:ek s q w V) (hV:∀ b,V b→V' b):ek s q w V':=by
 obtain⟨h1,h2,b,h3,h4⟩:=h
 exact⟨hV s h1,h2,b,hV b h3,h4⟩
theorem j3 (w:World):Calls au 50 #[] w fun e w'=>∃ s,e=.returned (((s:Nat):Value))∧ek s [] w' (New w w')∧Grow w w':=by
 have hmm:=@run_makeMap au
 go_enter Tryz.func50,Tryz.ntmps50
 go_wp2_with fail
 go_ret
 have hg1:Grow w (w.alloc (.map #[] 0)):=(Below.refl _ w).alloc (aC _) _
 have hg2:Grow (w.alloc (.map #[] 0)) ((w.alloc (.map #[] 0)).alloc (.cells #[.map (some w.heap.size)] 215)):=(Below.refl _ _).alloc (aC _) _
 refine⟨_,rfl,⟨⟨by simp,by simp⟩,qG,w.heap.size,⟨aC _,by simp;omega⟩,by simp,?_,?_⟩,hg1.trans hg2⟩
 ·have:=ct.made (w.alloc (.map #[] 0)) 215 #[.map (some w.heap.size)]
  rwa [di] at this
 ·have:=(SMap.made (P:=au) (k:=9) (e:=27) (qe := .u64) w).grow hg2
  exact this.imp fun _ _=>rfl
theorem m0 (w:World) (s:Nat) (q:Sm) (V:Nat→Prop) (h:ek s q w V) (x:ByteArray) (hx:x.size≤maxLen) :
 Calls au 52 #[((s:Nat):Value),.string x] w fun e w'=>e=.returned (ae ah ((gt q x:Nat):Int))∧w=w':=by
 obtain⟨h1,h2,b,h3,h4,hB,hM⟩:=h
 have c0:=hB.cell 0
 have hl:=SMap.xQ EH hM x hx
 rw[rN] at hl
 go_enter Tryz.func52,Tryz.ntmps52
 go_wp2_with fail
 go_ret
 exact⟨rfl,rfl⟩
theorem Bv (w:World) (a b:Nat) (ha:a≤kc) (hb:b≤kc) :
 Calls au 158 #[ae ah (a:Int),ae ah (b:Int)] w fun e w'=>e=.returned (ae ah ((if a+b≤kc then a+b else kc:Nat):Int))∧w=w':=by
 unfold kc at *
 have hs:IntKind.u64.wrap ((18446744073709551615:Int)-(b:Int))=((18446744073709551615-b:Nat):Int):=by rw[IntKind.wrap_u64];omega
 by_cases h:a+b≤18446744073709551615
 ·rw[if_pos h]
  have ha':IntKind.u64.wrap ((a:Int)+(b:Int))=((a+b:Nat):Int):=by rw[IntKind.wrap_u64];omega
  have hd:decide (18446744073709551615-b<a)=false:=decide_eq_false al
  go_enter Tryz.func158,Tryz.ntmps158
  go_wp2_with fail
  go_ret
  exact⟨rfl,rfl⟩
 ·rw[if_neg h]
  have hd:decide (18446744073709551615-b<a)=true:=decide_eq_true al
  go_enter Tryz.func158,Tryz.ntmps158
  go_wp2_with fail
  go_ret
  exact⟨rfl,rfl⟩
def add (q:Sm) (l:List Dl):Sm:=l.foldl (fun q d=>put q d.1 (gt q d.1+d.2)) q
theorem add_nil (q:Sm):add q []=q:=rfl
theorem iA (q:Sm) (d:Dl) (l:List Dl):add q (d :: l)=add (put q d.1 (gt q d.1+d.2)) l:=rfl
theorem lG (q:Sm) (l m:List Dl):add q (l++m)=add (add q l) m:=List.foldl_append
theorem add_one (q:Sm) (l:List Dl) (d:Dl):add q (l++[d])=put (add q l) d.1 (gt (add q l) d.1+d.2):=by rw[lG];rfl
def tot (l:List Dl) (x:ByteArray):Nat:=((l.filter fun d=>decide (d.1=x)).map (·.2)).sum
theorem m5 (d:Dl) (l:List Dl) (x:ByteArray):tot (d :: l) x=(if d.1=x then d.2 else 0)+tot l x:=by
 unfold tot
 by_cases h:d.1=x<;>simp[h]
theorem rP (q:Sm) (x:ByteArray) (v:Nat) (y:ByteArray):gt (put q x v) y=if y=x then v else gt q y:=by
 unfold gt
 rw[rL]
 split<;>rfl
theorem Bw (q:Sm) (l:List Dl) (x:ByteArray):gt (add q l) x=gt q x+tot l x:=by
 induction l generalizing q with
 | nil=>rfl
 | cons d l ih=>
   rw[iA,ih,rP,m5]
   by_cases h:x=d.1
   ·rw[if_pos h,if_pos h.symm,h];omega
   ·rw[if_neg h,if_neg (fun e=>h e.symm)];omega
def eF (q mo:Sm):List Dl→Bool
 | []=>true
 | d :: l=>decide (gt mo d.1+d.2+gt q d.1≤kc) && eF q (put mo d.1 (gt mo d.1+d.2)) l
theorem jH (q:Sm) (l:List Dl) (d:Dl):∀ mo,eF q mo (l++[d])=(eF q mo l && decide (gt (add mo l) d.1+d.2+gt q d.1≤kc)):=by
 induction l with
 | nil=>intro mo;rw[aR,eF,eF,eF,add_nil,Bool.and_true,Bool.true_and]
 | cons a l ih=>intro mo;rw[bA,eF,eF,ih,iA,Bool.and_assoc]
theorem Bz (q:Sm) (l:List Dl):∀ mo,eF q mo l=true↔∀ d∈l,gt q d.1+gt mo d.1+tot l d.1≤kc:=by
 induction l with
 | nil=>intro mo;simp[eF]
 | cons a l ih=>
   intro mo
   rw[eF,aS,decide_eq_true_eq,ih]
   have key:∀ x:ByteArray,gt (put mo a.1 (gt mo a.1+a.2)) x+tot l x=gt mo x+tot (a :: l) x:=fun x=>by
    rw[rP,m5]
    by_cases h:x=a.1
    ·rw[if_pos h,if_pos h.symm,h];omega
    ·rw[if_neg h,if_neg (fun e=>h e.symm)];omega
   constructor
   ·rintro ⟨h1,h2⟩ d hd
    rcases List.mem_cons.1 hd with rfl|hd
    ·by_cases he:∃ e∈l,e.1=d.1
     ·obtain⟨e,he,hed⟩:=he
      have:=h2 e he
      rw[hed] at this
      have:=key d.1
      omega
     ·have h0:tot l d.1=0:=by
       unfold tot
       have:l.filter (fun e=>decide (e.1=d.1))=[]:=List.filter_eq_nil_iff.2 fun e hel h=>he ⟨e,hel,of_decide_eq_true h⟩
       rw[this];rfl
      rw[m5,if_pos rfl,h0];omega
    ·have:=h2 d hd
     have:=key d.1
     omega
   ·intro h
    refine⟨?_,fun d hd=>?_⟩
    ·have:=h a bq
     rw[m5,if_pos rfl] at this
     omega
    ·have:=h d (bb _ hd)
     have:=key d.1
     omega
theorem BA {q mo:Sm} {l:List Dl}:eF q mo l=true→(∀ x,gt mo x≤kc)→∀ x,gt (add mo l) x≤kc:=by
 induction l generalizing mo with
 | nil=>intro _ h;exact h
 | cons a l ih=>
   intro h hm
   rw[eF,aS,decide_eq_true_eq] at h
   rw[iA]
   refine ih h.2 fun x=>?_
   rw[rP]
   split
   ·omega
   ·exact hm x
theorem qH {q:Sm} {l:List Dl}:Right q→(∀ d∈l,d.1.size≤maxLen)→(∀ k,k≤l.length→∀ x,gt (add q (l.take k)) x≤kc)→Right (add q l):=by
 induction l generalizing q with
 | nil=>intro h _ _;exact h
 | cons a l ih=>
   intro h ht hm
   rw[iA]
   have h1:=hm 1 (by simp) a.1
   rw[aV,bw,iA,add_nil,rP,if_pos rfl] at h1
   refine ih (h.put (ht a bq) h1) (fun d hd=>ht d (bb _ hd)) fun k hk x=>?_
   have:=hm (k+1) (by simp;omega) x
   rwa [aV,iA] at this
theorem oe:∀ (l:List Dl) (q:Sm),(add q l).length≤q.length+l.length:=by
 intro l
 induction l with
 | nil=>intro q;exact aC _
 | cons a l ih=>
   intro q
   have h1:=ih (put q a.1 (gt q a.1+a.2))
   have h2:=oI q a.1 (gt q a.1+a.2)
   rw[iA,aL]
   split at h2<;>omega
def news (q mo:Sm):Nat:=(mo.filter fun d=>(lk q d.1).isNone).length
def i3 (q:Sm) (l:List Dl):Int:=if eF q [] l then (if q.length+news q (add [] l) > 16 then 24 else 0) else 25
theorem jI {q mo:Sm} {l:List Dl} (h:eF q mo l=true) (k:Nat):eF q mo (l.take k)=true:=by
 induction l generalizing mo k with
 | nil=>simp[eF]
 | cons a l ih=>
   cases k with
   | zero=>rfl
   | succ k=>
     rw[eF,aS] at h
     rw[aV,eF,aS]
     exact⟨h.1,ih h.2 k⟩
theorem vt {q:Sm} {l:List Dl} (ht:∀ d∈l,d.1.size≤maxLen) (h:eF q [] l=true):Right (add [] l):=
 qH qG ht fun k _=>BA (jI h k) fun x=>aZ _
theorem vu {q:Sm} {l:List Dl} {k:Nat} (hk:k<l.length) (h:kc<gt (add [] (l.take k)) l[k].1+l[k].2+gt q l[k].1):eF q [] l=false:=by
 cases ho:eF q [] l with
 | false=>rfl
 | true=>
   have:=jI ho (k+1)
   rw[aI hk,jH,aS,decide_eq_true_eq] at this
   omega
theorem vv {mo:Sm} (hs:GV mo) {p:Dl→Bool} {left:ByteArray→Bool} {x:ByteArray} {v:Nat} (hx:lk mo x=some v) (hl:left x=true) :
 (mo.filter fun d=>p d && !(left d.1 && decide (d.1≠x))).length=(mo.filter fun d=>p d && !left d.1).length+(if p (x,v) then 1 else 0):=by
 induction mo with
 | nil=>cases hx
 | cons a mo ih=>
   have hs':=List.pairwise_cons.1 hs
   rw[jG] at hx
   by_cases ha:a.1=x
   ·rw[if_pos ha] at hx
    injection hx with hx
    have hax:a=(x,v):=Prod.ext ha hx
    have hrest:(mo.filter fun d=>p d && !(left d.1 && decide (d.1≠x)))=mo.filter fun d=>p d && !left d.1:=by
     refine List.filter_congr fun d hd=>?_
     have hne:d.1≠x:=fun e=>by
      have:=hs'.1 d hd
      rw[e,ha,gT] at this;cases this
     simp[hne]
    subst hax
    rw[List.filter_cons,List.filter_cons,hrest]
    simp only[hl,ne_eq,not_true_eq_false,decide_false,Bool.and_false,Bool.not_false,Bool.and_true,Bool.not_true]
    split<;>simp_all
   ·rw[if_neg ha] at hx
    rw[List.filter_cons,List.filter_cons]
    have:=ih hs'.2 hx
    simp only[ne_eq,ha,not_false_eq_true,decide_true,Bool.and_true]
    split
    ·rw[aL,aL,this];omega
    ·exact this
theorem BB {w:World} {V:Nat→Prop} {A:Option Addr} {n:Nat} {q:List Dl} (h:In w V 2 A n (eE q)) {k:Nat} (hk:k<n) :
 ∃ (ad:Addr) (hq:k<q.length),A=some ad∧(∀ w1,Grow w w1→w1.cell? (ad.add (k*2))=some (.string q[k].1))∧∀ w1,Grow w w1→w1.cell? ⟨(ad.add (k*2)).block,(ad.add (k*2)).off+1,none⟩=some (ae ah ((q[k].2:Nat):Int)):=by
 obtain⟨ad,hq,e,_,hb,e0,e12⟩:=In.iS (cells:=oH) h al kU hk
 exact⟨ad,hq,e,fun w1 hg=>(hg.cell (by rw[block_add];exact hb)).trans (e0 _ rfl),fun w1 hg=>(hg.cell (p:=⟨(ad.add (k*2)).block,(ad.add (k*2)).off+1,none⟩) (show (ad.add (k*2)).block<_ by rw[block_add];exact hb)).trans (e12 0 _ rfl)⟩
end Go.Proofs.YtmijcbfgfkeodaaGreatDoor.K
end
