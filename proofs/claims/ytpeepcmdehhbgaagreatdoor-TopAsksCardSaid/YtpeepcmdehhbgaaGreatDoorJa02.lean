import Derived.Test.YtpeepcmdehhbgaaGreatDoorJa01
import Derived.Lib.Bytealg
import Derived.Lib.AppendZeros
import Derived.Maps.Own
import Derived.Laws.StructEq
import Derived.Shelf.SlSortCmp.InsertionK
import Derived.Ground.SlsfProg
import Derived.Ground.SlgnProg
import Derived.Shelf.SortG.Plain
import Derived.Shelf.SortG.SortNone
import Derived.Laws.Rows
import Derived.Deep.MidRow
import Derived.Maps.RangeRun
import Derived.ArgAppend
set_option linter.all false
set_option maxRecDepth 100000
set_option maxHeartbeats 2000000
open Go.Value renaming int->ae,slice->Z,string->aX,bool->aY,agg->aZ,tuple->a_
open Go.Ending renaming returned->b5
open Go.IntKind renaming i64->af,u64->ah
open Go.Proofs.Tryz renaming prog->W,underlying9->cW,underlying23->d9,underlying3->dp,underlying5->dm
open Go.Lib renaming hid->Q
open List renaming length_append->bd,length_map->bj,append_nil->bm,length_take->bn,append_assoc->bp,take_succ_eq_append_getElem->br,length_cons->bD,getElem_mem->bF,take_of_length_le->bH,map_append->bI,flatMap_cons->bJ,flatMap_append->bL,length_drop->bO,mem_cons_of_mem->bR,nil_append->ch,mem_cons_self->cj,flatMap_nil->cE,not_mem_nil->cF,mem_cons->cI,prefix_append->cL,take_append_drop->dt,map_cons->bQ,drop_of_length_le->cH,map_nil->cQ,map_toArray->cV,mem_of_mem_eraseIdx->cY,eq_nil_of_length_eq_zero->bu,size_toArray->cy,length_filter_le->c_,length_set->dh,mem_of_mem_take->bW,length_nil->cx,cons_append->cD,take_succ_cons->cG,length_singleton->bv,replicate->cS,mem_of_mem_drop->cX,getElem_map->di
open Nat renaming le_refl->bh,zero_le->bo,le_trans->bB,eq_zero_or_pos->b_,zero_add->cJ,mul_one->cM,lt_of_lt_of_le->bw,min_eq_left->cz
open Go.Builtin renaming zeroCells->bM,append_->cn
open Bool renaming and_eq_true->bU,eq_false_or_eq_true->bC,false_ne_true->cB
open Array renaming length_toList->bZ
open Go renaming Value->K,World->X,Calls->dz,Addr->dA,maxLen->dG,TypeId->dC,Program->dD,Oper->dE,Act->dF
open Go.Region renaming wanted->bN,ready->cC
open Option renaming map_some->df
open Go (J az aE aA aB aC aD ay aj am ap aw aL aK aJ aI aH aV aU aT aR aQ aP aO aN)
section
variable{k:Nat}{l t t':aT}{s:aR}{xs:List (List UInt8)}{w:X}{V:aV}
namespace Go.Proofs.YtpeepcmdehhbgaaGreatDoor.abn
open RowKit Hop
def Kq(c:Nat):Bool:=(decide (97<=c)&&decide (c<=122))||(decide (48<=c)&&decide (c<=57))||decide (c=95)
def VL(c:Nat):Kq c=true↔(97<=c∧c<=122)∨(48<=c∧c<=57)∨c=95:=by unfold Kq;simp only[Bool.or_eq_true,bU,decide_eq_true_eq];omega
def VM(s:aR):Bool:=s.data.toList.all λc=>Kq c.toNat
def me(s:aR):Bool:=decide (1<=s.size)&&decide (s.size<=32)&&VM s
def N9(N:k<s.size)(h:(s.data.toList.take k).all (λc=>Kq c.toNat)=true)(E:Kq s[k].toNat=true):(s.data.toList.take (k+1)).all (λc=>Kq c.toNat)=true:=by
 have hl:k<s.data.toList.length:=by simpa using N
 rw[br hl,List.all_append,h,Bool.true_and];simp only[List.all_cons,List.all_nil,Bool.and_true];exact E
def VN(N:k<s.size)(E:Kq s[k].toNat=false):VM s=false:=by
 have hl:k<s.data.toList.length:=by simpa using N
 refine List.all_eq_false.2 ⟨s.data.toList[k],bF hl,?_⟩;have:s.data.toList[k]=s[k]:=by rw[Array.getElem_toList];rfl
 rw[this,E];simp
def Rn(N:k<s.size)(E:Kq s[k].toNat=false):me s=false:=by unfold me;rw[VN N E,Bool.and_false]
def Na(c:UInt8):0<=(c.toNat:Int)∧(c.toNat:Int)<=255:=by have:=c.toNat_lt;omega
def Dd(w:X)(s:aR)(hs:s.size<=dG):dz W 264 #[aX s] w λe O=>e=b5 (aY (me s))∧w=O:=by
 unfold dG at hs;by_cases h0:s.size=0
 ·have he:me s=false:=by unfold me;rw[aD ap,Bool.false_and,Bool.false_and]
  rw[he];have hee:(s == (⟨#[]⟩:ByteArray))=true:=by have:s=⟨#[]⟩:=ByteArray.ext (Array.eq_empty_of_size_eq_zero h0);rw[this];rfl
  obtain rfl:s=⟨#[]⟩:=ByteArray.ext (Array.eq_empty_of_size_eq_zero h0);clear h0 hee he;go_in;go_wp2;go_ret;exact⟨rfl,rfl⟩
 ·have jT:s.toList=[]↔False:=by
   constructor
   ·intro h
    have G:s.data.toList=[]:=by rw[<-Lib.toList_data];exact h
    have:s.size=0:=by show s.data.size=0;rw[<-bZ,G];rfl
    exact h0 this
   ·exact False.elim
  have hne2:s.toList.isEmpty=false:=by
   cases h:s.toList with
   | nil=>exact (jT.1 h).elim
   | cons _ _=>rfl
  clear jT
  by_cases h32:s.size<=32
  ·have hd:decide ((32:Int)<(s.size:Int))=false:=aD ap
   go_in
   go_wp2
   go_loop [14] (λi=>∃k:Nat,k<=s.size∧i=J k∧(s.data.toList.take k).all (λc=>Kq c.toNat)=true) (λi=>s.size-(intOf i).toNat)
   case atStart=>exact⟨0,bo _,rfl,rfl⟩
   case round=>
    obtain⟨k,N,rfl,o5⟩:=hrel
    have HA:=Q o5
    clear o5
    by_cases fS:k<s.size
    ·have Y0:decide ((k:Int)<(s.size:Int))=true:=aC ap
     have hb:=Na s[k]
     have HY:Hid (Kq s[k].toNat=true->(s.data.toList.take (k+1)).all (λc=>Kq c.toNat)=true):=Q λh=>N9 fS HA.out h
     have HN:Hid (Kq s[k].toNat=false->me s=false):=Q λh=>Rn fS h
     have HI:Hid (Kq s[k].toNat=true↔_):=Q (VL s[k].toNat)
     go_wp2
     all_goals first
      | (go_ret;exact⟨kC (HN.out (by rw[Bool.eq_false_iff,ne_eq,HI.out];(try simp only[bne_iff_ne,ne_eq,bne_eq_false_iff_eq] at *);omega)).symm,rfl⟩)
      | (go_round
         case rel=>exact⟨k+1,by omega,by go_num,HY.out (HI.out.2 (by (try simp only[bne_iff_ne,ne_eq,bne_eq_false_iff_eq] at *);omega))⟩
         case measure=>simp[intOf];omega)
    ·obtain rfl:k=s.size:=by omega
     have Y0:decide ((s.size:Int)<(s.size:Int))=false:=aD ap
     have ht:me s=true:=by have:=HA.out;rw[bH (by simp)] at this;unfold me VM;rw[this,aC ap,aC ap];rfl
     have HT:=Q ht
     clear ht
     go_wp2
     go_ret
     exact⟨kC HT.out.symm,rfl⟩
  ·have hd:decide ((32:Int)<(s.size:Int))=true:=aC ap
   have he:me s=false:=by unfold me;rw[aD h32,Bool.and_false,Bool.false_and]
   rw[he]
   clear he
   go_in
   go_wp2
   go_ret
   exact⟨rfl,rfl⟩
end Go.Proofs.YtpeepcmdehhbgaaGreatDoor.abn
namespace Go.Proofs.YtpeepcmdehhbgaaGreatDoor.V
open RowKit Hop
def xj(w:X)(A:aU)(n c:Nat)(l:aT)(hb:Bytes w (w:Nat) A n l)(hn:n<=1099511627776)(s:aR)(hs:s.size<=1099511627776):dz W 240 #[Z A n c,aX s] w λe O=>∃v,e=b5 v∧Own O (New w O) 5 1 v (n+(enc s.size).length+s.size) (kz (l++enc s.size++s.data.toList))∧Grow w O:=by
 have fj:=eE (n:=s.size) ap;have HLen:=Q fj;clear fj;go_in;go_wp2_with (first
  | (go_at_call 182;refine (Bt _ A n c l hb hn s.size ap).mono ?_;rintro e w1 ⟨v1,rfl,kv,eD⟩)
  | (at_builtin;refine stay ?_))
 refine dI ?_;refine xb Kj cW _ rfl (.tmp 9) (.tmp 10) rfl v1 _ _ rfl kv s rfl (by have:=HLen.out;omega) ?_;intro v2 w2 sw k7;rw[<-iT] at sw;obtain⟨sw,fk⟩:=D4 eD sw k7;clear k7 kv;go_wp2_with (go_at_call 238;refine (D5 _ _ _ _ _ sw).mono ?_;rintro e w4 ⟨v4,rfl,rfl,hO4⟩);go_ret;exact⟨v4,rfl,hO4,fk⟩
def pA(l t:aT)(k:Nat):Prop:=(t.length<18446744073709551616∧enc t.length++t <+: l∧k=(enc t.length).length+t.length)∨((∀t':aT,t'.length<18446744073709551616->¬ (enc t'.length++t') <+: l)∧t=[]∧k=0)
def pA.none(h:∀t':aT,t'.length<18446744073709551616->¬ (enc t'.length++t') <+: l):pA l [] 0 := .inr ⟨h,rfl,rfl⟩
def G0(I:enc t.length++t <+: l)(G:enc t'.length++t' <+: l):t=t':=by have he:=k8 ((cL _ _).trans I) ((cL _ _).trans G);rw[<-he] at G;obtain⟨r,rfl⟩:=I;rw[bp] at G;have L:=(List.prefix_append_right_inj _).1 G;have h4:t <+: t++r:=cL _ _;exact List.IsPrefix.eq_of_length (List.prefix_of_prefix_length_le h4 L ap) he
def pA.one{k':Nat}(h:pA l t k)(h':pA l t' k'):t=t'∧k=k':=by
 rcases h with ⟨I,G,L⟩|⟨I,G,L⟩<;>rcases h' with ⟨g1,g2,g3⟩|⟨g1,g2,g3⟩
 ·have:=G0 G g2
  subst this;exact⟨rfl,by omega⟩
 ·exact absurd G (g1 _ I)
 ·exact absurd g2 (I _ g1)
 ·exact⟨by rw[G,g2],by omega⟩
def Nb{v:Nat}(hv:v<18446744073709551616)(hE:enc v <+: l)(N:k=(enc v).length)(hl:v<=l.length-k):pA l ((l.drop k).take v) (k+v):=by
 obtain⟨r,rfl⟩:=hE;subst N;rw[List.drop_left']
 ·rw[bd,Nat.add_sub_cancel_left] at hl
  have fj:(r.take v).length=v:=by rw[bn];omega
  refine .inl ⟨by rw[fj];exact hv,?_,by rw[fj]⟩;rw[fj];exact (List.prefix_append_right_inj _).2 (List.take_prefix _ _)
 ·rfl
end Go.Proofs.YtpeepcmdehhbgaaGreatDoor.V
namespace Go.Proofs.YtpeepcmdehhbgaaGreatDoor.Vc
open RowKit Hop V
def sJ(w:X)(B:Nat)(A:aU)(n c:Nat)(l:aT)(hb:Bytes w B A n l)(HB0:B<=(w:Nat))(iS:n<=c)(Qe:c<=dG):dz W 196 #[Z A n c] w λe O=>∃(t:aT)(k:Nat),pA l t k∧e=b5 (a_ #[aX ⟨t.toArray⟩,J k])∧Grow w O:=by
 have fj:=hb.len;unfold dG at Qe;go_in;go_wp2_with fail;go_at_call 134;refine (qG w B A n c l hb (by unfold dG;omega)).mono ?_;rintro e w1 ⟨v,k,hG,rfl,rfl⟩;obtain⟨hv,a1u,Iq⟩:=hG.lt;by_cases N:k<=0
 ·go_wp2_with fail
  go_ret2;exact⟨[],0,pA.none (λt ht hp=>by
   rcases hG with ⟨_,_,L⟩|⟨I,_,_⟩
   ·have:=nx v;omega
   ·exact I _ ht ((cL _ _).trans hp)),rfl,Grow.refl _⟩
 ·have hE:enc v <+: l∧k=(enc v).length:=by
   rcases hG with ⟨_,G,L⟩|⟨_,_,L⟩
   ·exact⟨G,L⟩
   ·omega
  obtain⟨hE,hkE⟩:=hE
  have HKE:=Q hkE
  clear hkE
  have gP:(n:Int)-(k:Int)<(v:Int)∨(v:Int)<=(n:Int)-(k:Int):=by omega
  have hwn:IntKind.u64.wrap ((n:Int)-(k:Int))=(n:Int)-(k:Int):=by rw[wrap_u64];omega
  have hw64:wrap64 ((n:Int)-(k:Int))=(n:Int)-(k:Int):=by unfold wrap64;omega
  have hkb:((k:Int) == 0)=false:=by rw[beq_eq_false_iff_ne];omega
  by_cases zf:(n:Int)-(k:Int)<(v:Int)
  ·clear gP
   go_wp2
   go_ret2
   exact⟨[],0,pA.none (λt ht hp=>by have I:=k8 hE ((cL _ _).trans hp);have G:=hp.length_le;rw[bd,<-I,<-HKE.out] at G;omega),rfl,Grow.refl _⟩
  ·clear gP
   have hvn':(v:Int)<=(n:Int)-(k:Int):=by omega
   have hwv:IntKind.i64.wrap (v:Int)=(v:Int):=by rw[IntKind.wrap_i64];omega
   have T:=(Reads.cut hb (k:=k) (cap:=c) ap iS).take (k:=v) ap
   rw[cM] at T
   have wI:Bytes w B (if c=k then A else A.map (·.add k)) v ((l.drop k).take v):=by unfold Bytes;rw[w_,pU,cM k];exact T
   have hkv:(k:Int)+(v:Int)<=(c:Int):=by omega
   have uX:=Nb hv hE HKE.out (show v<=l.length-k by omega)
   by_cases o9:c=k
   ·rw[aA o9] at wI
    obtain rfl:k=c:=o9.symm
    obtain rfl:v=0:=by omega
    have wI:Bytes w B A 0 []:=wI
    have cv:=λc'=>x9 w (c:=c') wI
    go_wp2
    go_ret2
    exact⟨_,_,uX,by push_cast;rfl,Grow.refl _⟩
   ·rw[aB o9] at wI
    have cv:=λc'=>x9 w (c:=c') wI
    go_wp2
    go_ret2
    exact⟨_,_,uX,by push_cast;rfl,Grow.refl _⟩
end Go.Proofs.YtpeepcmdehhbgaaGreatDoor.Vc
namespace Go.Proofs.YtpeepcmdehhbgaaGreatDoor.abn
open RowKit Hop
def De(h:Int)(c:UInt8):Int:=IntKind.u64.wrap (bits .xor .u64 h (c.toNat:Int)*1099511628211)
def kc(l:aT):Int:=l.foldl De 14695981039346656037
def zO(l:aT):0<=kc l∧kc l<=18446744073709551615:=by
 unfold kc;rcases List.eq_nil_or_concat l with rfl|⟨r,c,rfl⟩
 ·exact⟨by decide,by decide⟩
 ·rw[List.concat_eq_append,List.foldl_append]
  show 0<=De _ c∧De _ c<=_;unfold De;rw[wrap_u64];omega
def Df(N:k<s.size):kc (s.data.toList.take (k+1))=De (kc (s.data.toList.take k)) s[k]:=by
 have hl:k<s.data.toList.length:=by simpa using N
 unfold kc;rw[br hl,List.foldl_append];rfl
def xk(n:Int):Int:=max 1 (min n 4)
def Nc(n:Int):∃m:Int,1<=m∧m<=4∧xk n=m:=⟨xk n,by unfold xk;omega,by unfold xk;omega,rfl⟩
def lX(s:aR)(n:Int):Int:=kc s.data.toList % xk n
def Kr(w:X)(s:aR)(hs:s.size<=dG):dz W 333 #[aX s] w λe O=>e=b5 (ae ah (kc s.data.toList))∧w=O:=by
 unfold dG at hs;go_in;go_wp2;go_loop [3,7] (λh i=>∃k:Nat,k<=s.size∧i=J k∧h=ae ah (kc (s.data.toList.take k))) (λ_ i=>s.size-(intOf i).toNat);case atStart=>exact⟨0,bo _,rfl,rfl⟩
 case round=>
  obtain⟨k,N,rfl,rfl⟩:=hrel;have hp:=zO (s.data.toList.take k);by_cases fS:k<s.size
  ·have Y0:decide ((k:Int)<(s.size:Int))=true:=aC ap
   have hb:=Na s[k];have HS:=Q (Df fS);have hcw:IntKind.u64.wrap (s[k].toNat:Int)=(s[k].toNat:Int):=by rw[wrap_u64];omega
   go_wp2;go_round;case rel=>exact⟨k+1,by omega,by go_num,by rw[HS.out];rfl⟩
   case measure=>simp[intOf];omega
  ·obtain rfl:k=s.size:=by omega
   have Y0:decide ((s.size:Int)<(s.size:Int))=false:=aD ap;go_wp2;go_ret;exact⟨by rw[bH (by simp)];rfl,rfl⟩
def Ks(w:X)(s:aR)(n:Int)(hs:s.size<=dG)(hn:-9223372036854775808<=n∧n<=9223372036854775807):dz W 280 #[aX s,J n] w λe O=>e=b5 (J (lX s n))∧w=O:=by
 obtain⟨m,I,h4,hm⟩:=Nc n;have hp:=zO s.data.toList;have Qf:∀ts t w,(Builtin.min_ ts t #[J n,J 4]).run W w=.ok (J (min n 4)) w:=λts t w=>by rw[run_min_int2];congr 2;split<;>omega
 have Bb:∀ts t w,(Builtin.max_ ts t #[J 1,J (min n 4)]).run W w=.ok (J m) w:=λts t w=>by rw[run_max_int2,<-hm];congr 2;unfold xk;split<;>omega
 have hmw:IntKind.u64.wrap m=m:=by rw[wrap_u64];omega
 have su:¬ m=0:=by omega
 have HM:=Q hm;clear hm;have q0:=Int.emod_nonneg (kc s.data.toList) (b:=m) ap;have q1:=Int.emod_lt_of_pos (kc s.data.toList) (b:=m) ap;have hrem:(kc s.data.toList).tmod m=kc s.data.toList % m:=Int.tmod_eq_emod_of_nonneg hp.1;have hwi:IntKind.i64.wrap (kc s.data.toList % m)=kc s.data.toList % m:=by rw[IntKind.wrap_i64];omega
 go_in;go_wp2_with (go_at_call 333;refine (Kr _ _ hs).mono ?_;rintro e O ⟨rfl,rfl⟩);go_ret;exact⟨by unfold lX;rw[HM.out];rfl,rfl⟩
end Go.Proofs.YtpeepcmdehhbgaaGreatDoor.abn
namespace Go.Proofs.YtpeepcmdehhbgaaGreatDoor.V
open RowKit Hop
def Nf(w:X)(n:Nat)(hn:n<=140737488355328):dz W 367 #[ay,J n] w λe O=>∃v,e=b5 v∧Own O (New w O) 5 1 v 0 []∧Grow w O:=by
 rcases b_ n with h0|h0
 ·subst h0
  go_in;go_wp2;go_ret;exact⟨_,rfl,Own.nil,Grow.refl _⟩
 ·have zD:(0:Int)<(n:Int):=by omega
  have a5X:¬ (n:Int)<0:=by omega
  obtain⟨i,hi,hz,hs,hb⟩:=Kj.info;go_in;go_wp2_with (at_builtin;refine Lib.wpList_append_run _ rfl _ _ _ _ rfl _ _ rfl rfl _ _ (Lib.run_append_nil_zeros _ 23 3 _ 5 i (.int .u8 0) .i64 .i64 d9 dp hi hz n h0 ap ap (by rw[hb];omega)) ?_);have QG:=grownCap_ge w n 0 5;have mn:grownCap w n 0 5<=dG:=grownCap_le_maxLen w n 0 5 (by unfold dG;omega);generalize grownCap w n 0 5=cap at QG mn;have jQ:(bM #[Value.int .u8 0] n++bM #[Value.int .u8 0] (cap-n)).size=cap:=by rw[Array.size_append,size_zeroCells,size_zeroCells,show (#[Value.int .u8 0]:Array K).size=1 from rfl];omega
  generalize bM #[Value.int .u8 0] n++bM #[Value.int .u8 0] (cap-n)=cur at jQ;go_wp2;go_ret;refine⟨_,rfl,⟨rfl,.inr ⟨(w:Nat),cap,cur,rfl,⟨bh _,by simp⟩,?_,bo _,mn,by omega,by simp⟩⟩,Grow.drew ((Below.refl _ _).alloc (bh _) _)⟩;exact heap_alloc_new w _
structure Bx where
 A:Option dA
 m:Nat
 c:Nat
 bs:List UInt8
def Bx.cells(b:Bx):List K:=[Z b.A b.m b.c]
def ui(b:Bx):b.cells.length=1:=rfl
def VO(b:Bx):∀u∈b.cells,u.oneCell'=true:=by intro u hu;simp only[Bx.cells,cI,cF,or_false] at hu;rw[hu];rfl
def zP{α β:Type}(f:α->List β)(q:List α)(N:k<q.length):(q.take (k+1)).flatMap f=(q.take k).flatMap f++f q[k]:=by rw[br N,bL,bJ,cE,bm]
def IQ{α β:Type}(f:α->List β)(q:List α)(k:Nat):((q.take k).flatMap f).length<=(q.flatMap f).length:=by
 conv=>rhs;rw[<-dt k q]
 rw[bL,bd];omega
def oV(q:List Bx):Nat:=(q.flatMap Bx.bs).length
def G1(w:X)(A:aU)(n c:Nat)(q:List Bx)(T:Reads w (w:Nat) 1 A n (q.flatMap Bx.cells))(hb:∀b∈q,Bytes w (w:Nat) b.A b.m b.bs)(hT:oV q<=1099511627776)(hn:n<=1099511627776):dz W 331 #[Z A n c] w λe O=>∃v,e=b5 v∧Own O (New w O) 5 1 v (oV q) (kz (q.flatMap Bx.bs))∧Grow w O:=by
 have hI:In w (λ_=>True) 1 A n (q.flatMap Bx.cells):=Reads.jL T (bh _) λ_ _=>trivial;have ig:q.length=n:=by have:=T.1;rw[ix Bx.cells 1 ui] at this;omega
 go_in;go_wp2_with fail;go_loopw [3,11] (λs i wr=>∃k:Nat,k<=n∧i=J k∧s=J (oV (q.take k):Int)∧w=wr) (λ_ i _=>n-(intOf i).toNat);case atStart=>exact⟨0,by omega,rfl,rfl,rfl⟩
 case round=>
  obtain⟨k,oL,rfl,rfl,rfl⟩:=hrel;by_cases N:k<n
  ·obtain⟨ad,hq,rfl,_,_,e0,_⟩:=hI.mr ap ui N
   have e0:=e0 _ rfl;rw[cM] at e0;have Fa:=hb _ (bF hq);have hL:oV (q.take (k+1))=oV (q.take k)+q[k].m:=by unfold oV;rw[zP Bx.bs q hq,bd,Bytes.len Fa]
   have mn:oV (q.take (k+1))<=oV q:=IQ Bx.bs q (k+1);have HL:=Q hL;have Um:=Q (show oV (q.take k)+q[k].m<=1099511627776 by omega);clear hL mn Fa;generalize q[k]=b at e0 HL Um;obtain⟨Ab,mb,cb,bs⟩:=b;dsimp only at e0 HL Um;generalize oV (q.take k)=s at HL Um;have wv:IntKind.i64.wrap ((s:Int)+(mb:Int))=(s:Int)+(mb:Int):=by have:=Um.out;rw[IntKind.wrap_i64];omega
   have hs0:¬ (s:Int)+(mb:Int)<0:=by omega
   go_wp2_with fail;go_roundw;case rel=>exact⟨k+1,by omega,by go_num,by rw[HL.out];push_cast;rfl,by trivial⟩
   case measure=>simp[intOf];omega
  ·obtain rfl:k=n:=by omega
   have Zr:q.take k=q:=bH ap;rw[Zr];go_wp2_with fail;go_at_call 367;refine (Nf w _ ap).mono ?_;rintro e w1 ⟨v,rfl,kv,eD⟩;go_wp2_with fail;go_loopw [6,27] (λv i wr=>∃j:Nat,j<=k∧i=J j∧Own wr (New w wr) 5 1 v (oV (q.take j)) (kz ((q.take j).flatMap Bx.bs))∧Grow w wr) (λ_ i _=>k-(intOf i).toNat);case atStart=>exact⟨0,by omega,rfl,kv,eD⟩
   case round=>
    obtain⟨j,Vb,rfl,hO,H⟩:=hrel;by_cases hj:j<k
    ·obtain⟨ad,hq,rfl,_,_,e0,_⟩:=(hI.grow H).mr ap ui hj
     have e0:=e0 _ rfl;rw[cM] at e0;have Fa:=(hb _ (bF hq)).below H;have hF:=zP Bx.bs q hq;have hL:oV (q.take (j+1))=oV (q.take j)+q[j].m:=by unfold oV;rw[hF,bd,Bytes.len Fa]
     have mn:oV (q.take (j+1))<=oV q:=IQ Bx.bs q (j+1);have HF:=Q hF;have Um:=Q (show oV (q.take j)+q[j].m<=1099511627776 by omega);have HL:=Q hL;clear hF mn hL;generalize q[j]=b at e0 HF Um Fa HL;obtain⟨Ab,mb,cb,bs⟩:=b;dsimp only at e0 HF Um Fa HL;go_wp2_with (at_builtin;refine stay ?_);refine dI ?_;refine fO (V:=New w wr) Kj _ rfl (.tmp 31) (.tmp 32) rfl _ _ _ rfl hO (w:Nat) Ab mb cb (kz bs) rfl Fa lx (by have:=Um.out;omega) ?_;intro v2 w2 sw k7;rw[<-iT,<-HF.out,<-HL.out] at sw;obtain⟨sw,fk⟩:=D4 H sw k7;clear k7 hO Fa;go_wp2_with fail;go_roundw;case rel=>exact⟨j+1,by omega,by go_num,sw,fk⟩
     case measure=>simp[intOf];omega
    ·obtain rfl:j=k:=by omega
     rw[Zr] at hO;go_wp2;go_ret;exact⟨_,rfl,hO,H⟩
def BF(c:BitVec 32)(i:Nat):((tb c i).toNat:Int)=(c.toNat:Int) / ((2 ^ (8*i):Nat):Int) % 256:=by rw[wV];simp
def uj(w:X)(A:aU)(n c:Nat)(l:aT)(hb:Bytes w (w:Nat) A n l)(hn:n<=65536):dz W 276 #[Z A n c] w λe O=>∃v,e=b5 (a_ #[v,()])∧Own O (New w O) 5 1 v (frame l).length (kz (frame l))∧Grow w O:=by
 have fj:=hb.len;have YT:=Bt w none 0 0 [] Reads.nil ap n ap;have hen:=eE (n:=n) ap;rw[ch,cJ] at YT;have hwn:IntKind.u64.wrap (n:Int)=(n:Int):=by rw[IntKind.wrap_u64];omega
 go_in;go_wp2_with fail;go_at_call 182;refine YT.mono ?_;rintro e w1 ⟨v1,rfl,kv,eD⟩;clear YT;have tY:=FG A n c l w1 (w:Nat) (hb.below eD) (by unfold dG;omega);go_wp2_with fail;go_at_call 136;refine tY.mono ?_;rintro e w1' ⟨rfl,rfl⟩;clear tY;go_wp2_with fail;go_loopw [4,16] (λv i wr=>∃k:Nat,k<=4∧i=J k∧Own wr (New w wr) 5 1 v ((enc n).length+k) (kz (enc n++(oO (crc l)).take k))∧Grow w wr) (λ_ i _=>4-(intOf i).toNat);case atStart=>exact⟨0,by omega,rfl,by rw[List.take_zero,bm];exact kv,eD⟩
 case round=>
  obtain⟨k,j5,rfl,hO,H⟩:=hrel;by_cases N:k<4
  ·rcases (show k=0∨k=1∨k=2∨k=3 by omega) with rfl|rfl|rfl|rfl
   ·have hX:((crc l).toNat:Int) % 256=((tb (crc l) 0).toNat:Int):=by rw[BF];simp
    have HX:=Q hX;clear hX;go_wp2_with (at_builtin;refine stay ?_);refine dI ?_;refine fO (V:=New w wr) Kj _ rfl (.tmp 19) (.tmp 25) rfl _ _ _ rfl (mD hO _) ((wr:Nat)+1) (some ⟨(wr:Nat),0,none⟩) 1 1 (kz [tb (crc l) 0]) rfl (Reads.oe (fF wr #[.int .u8 (((crc l).toNat:Int) % 256)] 5 (0,0) rfl _ rfl) (by rw[HX.out];rfl)) lx (by have:=hen;omega) ?_;intro v3 w3 nt mz;rw[<-iT,bp,show (oO (crc l)).take 0++[tb (crc l) 0]=(oO (crc l)).take 1 from rfl] at nt;obtain⟨nt,ib⟩:=mC H nt mz;clear mz hO;go_wp2_with fail;go_roundw;case rel=>exact⟨1,by omega,by go_num,nt,ib⟩
    case measure=>simp[intOf]
   ·have hX:((crc l).toNat:Int) / 256 % 256=((tb (crc l) 1).toNat:Int):=by rw[BF];simp
    have HX:=Q hX;clear hX;go_wp2_with (at_builtin;refine stay ?_);refine dI ?_;refine fO (V:=New w wr) Kj _ rfl (.tmp 19) (.tmp 25) rfl _ _ _ rfl (mD hO _) ((wr:Nat)+1) (some ⟨(wr:Nat),0,none⟩) 1 1 (kz [tb (crc l) 1]) rfl (Reads.oe (fF wr #[.int .u8 (((crc l).toNat:Int) / 256 % 256)] 5 (0,0) rfl _ rfl) (by rw[HX.out];rfl)) lx (by have:=hen;omega) ?_;intro v3 w3 nt mz;rw[<-iT,bp,show (oO (crc l)).take 1++[tb (crc l) 1]=(oO (crc l)).take 2 from rfl] at nt;obtain⟨nt,ib⟩:=mC H nt mz;clear mz hO;go_wp2_with fail;go_roundw;case rel=>exact⟨2,by omega,by go_num,nt,ib⟩
    case measure=>simp[intOf]
   ·have hX:((crc l).toNat:Int) / 65536 % 256=((tb (crc l) 2).toNat:Int):=by rw[BF];simp
    have HX:=Q hX;clear hX;go_wp2_with (at_builtin;refine stay ?_);refine dI ?_;refine fO (V:=New w wr) Kj _ rfl (.tmp 19) (.tmp 25) rfl _ _ _ rfl (mD hO _) ((wr:Nat)+1) (some ⟨(wr:Nat),0,none⟩) 1 1 (kz [tb (crc l) 2]) rfl (Reads.oe (fF wr #[.int .u8 (((crc l).toNat:Int) / 65536 % 256)] 5 (0,0) rfl _ rfl) (by rw[HX.out];rfl)) lx (by have:=hen;omega) ?_;intro v3 w3 nt mz;rw[<-iT,bp,show (oO (crc l)).take 2++[tb (crc l) 2]=(oO (crc l)).take 3 from rfl] at nt;obtain⟨nt,ib⟩:=mC H nt mz;clear mz hO;go_wp2_with fail;go_roundw;case rel=>exact⟨3,by omega,by go_num,nt,ib⟩
    case measure=>simp[intOf]
   ·have hX:((crc l).toNat:Int) / 16777216=((tb (crc l) 3).toNat:Int):=by rw[BF];have:=(crc l).isLt;simp;omega
    have HX:=Q hX;clear hX;go_wp2_with (at_builtin;refine stay ?_);refine dI ?_;refine fO (V:=New w wr) Kj _ rfl (.tmp 19) (.tmp 25) rfl _ _ _ rfl (mD hO _) ((wr:Nat)+1) (some ⟨(wr:Nat),0,none⟩) 1 1 (kz [tb (crc l) 3]) rfl (Reads.oe (fF wr #[.int .u8 (((crc l).toNat:Int) / 16777216)] 5 (0,0) rfl _ rfl) (by rw[HX.out];rfl)) lx (by have:=hen;omega) ?_;intro v3 w3 nt mz;rw[<-iT,bp,show (oO (crc l)).take 3++[tb (crc l) 3]=(oO (crc l)).take 4 from rfl] at nt;obtain⟨nt,ib⟩:=mC H nt mz;clear mz hO;go_wp2_with fail;go_roundw;case rel=>exact⟨4,by omega,by go_num,nt,ib⟩
    case measure=>simp[intOf]
  ·obtain rfl:k=4:=by omega
   rw[show (oO (crc l)).take 4=oO (crc l) from rfl] at hO;obtain⟨A4,c4,rfl,om,hn4,VP⟩:=hO.reads;have fu:=(Below.refl (wr:Nat) wr).alloc (bh _) (.cells #[Z A4 ((enc n).length+4) c4,Z A n c] 23);have jU:=eQ H fu H.size;have qX:[(⟨A4,(enc n).length+4,c4,enc n++oO (crc l)⟩:Bx),⟨A,n,c,l⟩].flatMap Bx.bs=frame l:=by unfold frame;rw[fj];simp[bp]
   have YU:=G1 (wr.alloc (.cells #[Z A4 ((enc n).length+4) c4,Z A n c] 23)) (some ⟨(wr:Nat),0,none⟩) 2 2 [⟨A4,(enc n).length+4,c4,enc n++oO (crc l)⟩,⟨A,n,c,l⟩] (Reads.more (fF wr _ 23 _ rfl _ rfl) (by simp)) (λb vn=>by
    simp only[cI,cF,or_false] at vn;rcases vn with rfl|rfl
    ·exact Reads.more (Reads.below om fu) fu.size
    ·exact Reads.more (Reads.below hb jU) jU.size) (by unfold oV;rw[qX,jB,fj];omega) ap
   unfold oV at YU;rw[qX] at YU;go_wp2_with fail;refine YU.mono ?_;rintro e w5 ⟨v5,rfl,Ro,ng⟩;clear YU hO om;go_wp2;go_ret2;exact⟨v5,rfl,Ro.mono λb hb=>⟨by have:=hb.1;have:=jU.size;omega,hb.2⟩,eQ jU ng jU.size⟩
def xl(w:X)(A:aU)(n c:Nat)(hn:65536<n):dz W 276 #[Z A n c] w λe O=>e=b5 (a_ #[ay,J 3])∧w=O:=by go_in;go_wp2;go_ret2;exact⟨rfl,rfl⟩
def BG(a:dA)(i:Nat)(h:i≠0):a.add i=⟨a.block,a.off+i,none⟩:=by unfold Addr.add;rw[aB h]
def a3N(a b:Nat)(ha:a<4294967296)(hb:b<4294967296):bits .or .u32 (a:Int) (b:Int)=((a ||| b:Nat):Int):=by
 have YV:a ||| b<2 ^ 32:=Nat.or_lt_two_pow ha hb
 show IntKind.u32.wrap ((BitVec.ofInt 32 (a:Int) ||| BitVec.ofInt 32 (b:Int)).toNat:Int)=_;rw[BitVec.ofInt_natCast,BitVec.ofInt_natCast,BitVec.toNat_or,BitVec.toNat_ofNat,BitVec.toNat_ofNat,Nat.mod_eq_of_lt ha,Nat.mod_eq_of_lt hb,IntKind.wrap_u32'];omega
def le_step(pre:aT)(b:UInt8)(j:Nat)(hj:pre.length=j)(mz:j<=3):bits .or .u32 (Bq pre:Int) ((b.toNat:Int) % 4294967296*((256 ^ j:Nat):Int) % 4294967296)=(Bq (pre++[b]):Int):=by
 have I:=ML pre;have hb:=b.toNat_lt;rw[hj] at I;have G:256 ^ j<=256 ^ 3:=Nat.pow_le_pow_right am mz;have L:b.toNat*256 ^ j<=255*256 ^ 3:=Nat.mul_le_mul ap G;have e:(b.toNat:Int) % 4294967296*((256 ^ j:Nat):Int) % 4294967296=((b.toNat*256 ^ j:Nat):Int):=by rw[Int.emod_eq_of_lt (a:=(b.toNat:Int)) ap ap,<-Int.natCast_mul];exact Int.emod_eq_of_lt ap ap
 rw[e,a3N _ _ ap ap,CY,hj];congr 1;have e8:256 ^ j=2 ^ (8*j):=by rw[Nat.pow_mul]
 rw[e8] at I ⊢;rw[Nat.or_comm,Nat.mul_comm b.toNat,<-Nat.two_pow_add_eq_or_of_lt I];omega
def xm(w:X)(A:aU)(n c:Nat)(l:aT)(hb:Bytes w (w:Nat) A n l)(iS:n<=c)(iO:c<=dG):dz W 76 #[Z A n c] w λe O=>∃(x:aT)(k:Nat)(ok:Bool)(v:K),l5 l x k ok∧e=b5 (a_ #[v,J k,aY ok])∧Own O (New w O) 5 1 v x.length (kz x)∧Grow w O:=by
 have fj:=hb.len;go_in;go_wp2_with fail;go_at_call 134;refine (qG w _ A n c l hb (bB iS iO)).mono ?_;rintro e O ⟨m,k,hG,rfl,rfl⟩;unfold dG at iO;rcases hG with ⟨hm,hE,N⟩|⟨kh,rfl,rfl⟩
 ·have a1u:=eE hm
  have iP:=nx m;have Iq:=hE.length_le;have HK:=Q N;have ja:((k:Int) == 0)=false:=beq_eq_false_iff_ne.2 ap;have qY:1<=k∧k<=10∧k<=n:=by omega
  clear N;by_cases hm6:65536<m
  ·have a3O:decide ((65536:Int)<(m:Int))=true:=aC ap
   go_wp2;refine bodyPost_ret (v := a_ #[ay,(),aY false]) (by simp[results,Tryz.results76,go_sem]) rfl ⟨[],0,false,_,l5.none (FI hE hm6),rfl,Own.nil,Grow.refl _⟩
  ·have a3O:decide ((65536:Int)<(m:Int))=false:=aD ap
   have hwm:IntKind.i64.wrap (m:Int)=(m:Int):=by rw[IntKind.wrap_i64];omega
   by_cases YW:n<k+4+m
   ·have a5Y:decide ((n:Int)<(k:Int)+4+(m:Int))=true:=aC ap
    go_wp2;refine bodyPost_ret (v := a_ #[ay,(),aY false]) (by simp[results,Tryz.results76,go_sem]) rfl ⟨[],0,false,_,l5.none (FJ hE (by rw[fj,<-HK.out];exact YW)),rfl,Own.nil,Grow.refl _⟩
   ·have a5Y:decide ((n:Int)<(k:Int)+4+(m:Int))=false:=aD ap
    go_wp2_with fail;go_loopw [7,32] (λs i wr=>∃j:Nat,j<=4∧i=J j∧s=.int .u32 (Bq (((l.drop k).take 4).take j):Int)∧w=wr) (λ_ i _=>4-(intOf i).toNat);case atStart=>exact⟨0,by omega,rfl,rfl,rfl⟩
    case round=>
     obtain⟨j,CG,rfl,rfl,rfl⟩:=hrel;by_cases hj:j<4
     ·obtain⟨ad,hl,rfl,E⟩:=hb.at_ (k:=k+j) ap
      have hwj:IntKind.i64.wrap ((k:Int)+(j:Int))=(k:Int)+(j:Int):=by rw[IntKind.wrap_i64];omega
      have HT:=Q (show ((l.drop k).take 4).take (j+1)=((l.drop k).take 4).take j++[l[k+j]] by
       have I:j<((l.drop k).take 4).length:=by rw[bn,bO];omega
       rw[br I,List.getElem_take,List.getElem_drop])
      have TT:(((l.drop k).take 4).take j).length=j:=by rw[bn,bn,bO];omega
      have HS:=Q (le_step (((l.drop k).take 4).take j) l[k+j] j TT ap);generalize l[k+j]=bl at E HT HS;clear TT;rcases (show j=0∨j=1∨j=2∨j=3 by omega) with rfl|rfl|rfl|rfl
      ·have eA:w.cell? (ad.add k)=some (.int .u8 bl.toNat):=E
       go_wp2_with fail;go_roundw;case rel=>exact⟨1,by omega,by go_num,by have h:=HS.out;rw[<-HT.out] at h;rw[<-h];rw[show ((256 ^ 0:Nat):Int)=1 from rfl,Int.mul_one,Int.emod_emod];rfl,by trivial⟩
       case measure=>simp[intOf]
      ·have eA:w.cell? ⟨ad.block,ad.off+(k+1),none⟩=some (.int .u8 bl.toNat):=by rw[<-BG ad (k+1) ap];exact E
       go_wp2_with fail;go_roundw;case rel=>exact⟨2,by omega,by go_num,by have h:=HS.out;rw[<-HT.out] at h;rw[<-h];rfl,by trivial⟩
       case measure=>simp[intOf]
      ·have eA:w.cell? ⟨ad.block,ad.off+(k+2),none⟩=some (.int .u8 bl.toNat):=by rw[<-BG ad (k+2) ap];exact E
       go_wp2_with fail;go_roundw;case rel=>exact⟨3,by omega,by go_num,by have h:=HS.out;rw[<-HT.out] at h;rw[<-h];rfl,by trivial⟩
       case measure=>simp[intOf]
      ·have eA:w.cell? ⟨ad.block,ad.off+(k+3),none⟩=some (.int .u8 bl.toNat):=by rw[<-BG ad (k+3) ap];exact E
       go_wp2_with fail;go_roundw;case rel=>exact⟨4,by omega,by go_num,by have h:=HS.out;rw[<-HT.out] at h;rw[<-h];rfl,by trivial⟩
       case measure=>simp[intOf]
     ·obtain rfl:j=4:=by omega
      rw[show ((l.drop k).take 4).take 4=(l.drop k).take 4 by rw[List.take_take];rfl];have TV:((l.drop k).take 4).length=4:=by rw[bn,bO];omega
      have QF:((l.drop (k+4)).take m).length=m:=by rw[bn,bO];omega
      have T:=(Reads.cut hb (k:=k+4) (cap:=c) ap iS).take (k:=m) ap;rw[cM] at T;have hX':Bytes w (w:Nat) (if c=k+4 then A else A.map (·.add (k+4))) m ((l.drop (k+4)).take m):=by unfold Bytes;rw[w_,pU,cM (k+4)];exact T
      by_cases o9:c=k+4
      ·rw[aA o9] at hX'
       have hX:=hX';go_wp2_with fail;refine (jD w A m _ ((l.drop (k+4)).take m) hX ap).mono ?_;rintro e w1 ⟨v1,rfl,kv,eD⟩;obtain⟨A1,c1,rfl,lT,oK,ry⟩:=kv.reads;have tY:=FG A1 m c1 ((l.drop (k+4)).take m) w1 (w1:Nat) lT (by unfold dG;omega);by_cases hs:Bq ((l.drop k).take 4)=(crc ((l.drop (k+4)).take m)).toNat
       ·have hsI:((((crc ((l.drop (k+4)).take m)).toNat:Int) == (Bq ((l.drop k).take 4):Int)))=true:=beq_iff_eq.2 ap
        have hy:=CX hE HK.out ap ap ((vT _ _ TV).1 hs);go_wp2_with fail;refine tY.mono ?_;rintro e w1' ⟨rfl,rfl⟩;clear tY;go_wp2;refine bodyPost_ret (v := a_ #[Z A1 m c1,J ((k:Int)+4+(m:Int)),aY true]) (by simp[results,Tryz.results76,go_sem]) rfl ⟨_,k+4+m,true,_,hy,by push_cast;rfl,by rw[QF];exact kv,eD⟩
       ·have hsI:((((crc ((l.drop (k+4)).take m)).toNat:Int) == (Bq ((l.drop k).take 4):Int)))=false:=beq_eq_false_iff_ne.2 ap
        have kh:=IC hE HK.out ap (λh=>hs ((vT _ _ TV).2 h));go_wp2_with fail;refine tY.mono ?_;rintro e w1' ⟨rfl,rfl⟩;clear tY;go_wp2;refine bodyPost_ret (v := a_ #[ay,(),aY false]) (by simp[results,Tryz.results76,go_sem]) rfl ⟨[],0,false,_,l5.none kh,rfl,Own.nil,eD⟩
      ·rw[aB o9] at hX'
       have hX:Bytes w (w:Nat) (A.map λx=>⟨x.block,x.off+(k+3+1),none⟩) m ((l.drop (k+4)).take m):=by rwa [show (λa:dA=>a.add (k+4))=λx=>(⟨x.block,x.off+(k+3+1),none⟩:dA) from funext λx=>BG x (k+4) ap] at hX'
       go_wp2_with fail;refine (jD w _ m _ ((l.drop (k+4)).take m) hX ap).mono ?_;rintro e w1 ⟨v1,rfl,kv,eD⟩;obtain⟨A1,c1,rfl,lT,oK,ry⟩:=kv.reads;have tY:=FG A1 m c1 ((l.drop (k+4)).take m) w1 (w1:Nat) lT (by unfold dG;omega);by_cases hs:Bq ((l.drop k).take 4)=(crc ((l.drop (k+4)).take m)).toNat
       ·have hsI:((((crc ((l.drop (k+4)).take m)).toNat:Int) == (Bq ((l.drop k).take 4):Int)))=true:=beq_iff_eq.2 ap
        have hy:=CX hE HK.out ap ap ((vT _ _ TV).1 hs);go_wp2_with fail;refine tY.mono ?_;rintro e w1' ⟨rfl,rfl⟩;clear tY;go_wp2;refine bodyPost_ret (v := a_ #[Z A1 m c1,J ((k:Int)+4+(m:Int)),aY true]) (by simp[results,Tryz.results76,go_sem]) rfl ⟨_,k+4+m,true,_,hy,by push_cast;rfl,by rw[QF];exact kv,eD⟩
       ·have hsI:((((crc ((l.drop (k+4)).take m)).toNat:Int) == (Bq ((l.drop k).take 4):Int)))=false:=beq_eq_false_iff_ne.2 ap
        have kh:=IC hE HK.out ap (λh=>hs ((vT _ _ TV).2 h));go_wp2_with fail;refine tY.mono ?_;rintro e w1' ⟨rfl,rfl⟩;clear tY;go_wp2;refine bodyPost_ret (v := a_ #[ay,(),aY false]) (by simp[results,Tryz.results76,go_sem]) rfl ⟨[],0,false,_,l5.none kh,rfl,Own.nil,eD⟩
 ·go_wp2_with fail
  refine bodyPost_ret (v := a_ #[ay,(),aY false]) (by simp[results,Tryz.results76,go_sem]) rfl ⟨[],0,false,_,l5.none (MK kh),rfl,Own.nil,Grow.refl _⟩
def Ng{f:aT}(h:f <+: l.drop k):l.take (k+f.length)=l.take k++f:=by obtain⟨t,ht⟩:=h;rw[List.take_add,<-ht,List.take_left' rfl]
def oW(x:aT):5<=(frame x).length:=by have:=nx x.length;rw[jB];omega
def sO(l:aT):Prop:=∀y:aT,y.length<=65536->¬ frame y <+: l
def l8(l:aT)(xs:List (List UInt8))(k:Nat):Prop:=xs.flatMap frame++l.drop k=l∧k=(xs.flatMap frame).length∧(∀x∈xs,x.length<=65536)∧sO (l.drop k)
theorem Dg:∀(xs ys:List (List UInt8))(r s:aT),xs.flatMap frame++r=ys.flatMap frame++s->(∀x∈xs,x.length<=65536)->(∀x∈ys,x.length<=65536)->sO r->sO s->xs=ys
 | [],[],_,_,_,_,_,_,_=>rfl
 | [],y::ys,r,s,h,_,hy,hr,_=>absurd (show frame y <+: r by
  rw[cE,ch,bJ,bp] at h;rw[h];exact cL _ _) (hr y (hy y cj))
 | x::xs,[],r,s,h,Y,_,_,hs=>absurd (show frame x <+: s by
     rw[cE,ch,bJ,bp] at h;rw[<-h];exact cL _ _) (hs x (Y x cj))
 | x::xs,y::ys,r,s,h,Y,hy,hr,hs=>by
   rw[bJ,bJ,bp,bp] at h;have e:x=y:=uf (r:=frame x++(xs.flatMap frame++r)) (cL _ _) (by rw[h];exact cL _ _);subst e;rw[Dg xs ys r s (List.append_cancel_left h) (λz hz=>Y z (bR _ hz)) (λz hz=>hy z (bR _ hz)) hr hs]
def l8.one{ys:List (List UInt8)}{j:Nat}(h:l8 l xs k)(h':l8 l ys j):xs=ys∧k=j:=by have e:=Dg xs ys _ _ (h.1.trans h'.1.symm) h.2.2.1 h'.2.2.1 h.2.2.2 h'.2.2.2;subst e;exact⟨rfl,by rw[h.2.1,h'.2.1]⟩
theorem G2(xs:List (List UInt8)):5*xs.length<=(xs.flatMap frame).length:=by
 induction xs with
 | nil=>simp
 | cons x xs ih=>
   have:=oW x;rw[bJ,bd,bD];omega
def Dh{x:aT}(h:l.take k=xs.flatMap frame)(Y:frame x <+: l.drop k):l.take (k+(frame x).length)=(xs++[x]).flatMap frame:=by rw[Ng Y,h,bL,bJ,cE,bm]
def Di(h:l.take k=xs.flatMap frame)(N:k<=l.length)(Y:∀x∈xs,x.length<=65536)(hn:sO (l.drop k)):l8 l xs k:=⟨by rw[<-h,dt],by rw[<-h,bn];omega,Y,hn⟩
structure oX(w:X)(V:Nat->Prop)(b:Bx):Prop where
 bs:In w V 1 b.A b.m (kz b.bs)
 le:b.m<=b.c
 max:b.c<=dG
theorem oX.mono{w:X}{V V':aV}{b:Bx}(h:oX w V b)(hV:∀b,V b->V' b):oX w V' b:=⟨In.mono h.bs hV,h.le,h.max⟩
theorem oX.grow{w O:X}{V:aV}{b:Bx}(h:oX w V b)(H:Grow w O):oX O V b:=⟨In.grow h.bs H,h.le,h.max⟩
theorem oX.just{w O:X}{V U:aV}{b:Bx}(h:oX w V b)(hj:dM U w O)(hd:∀b,V b->¬ U b):oX O V b:=⟨In.just h.bs hj hd,h.le,h.max⟩
def oX.len{b:Bx}(h:oX w V b):b.bs.length=b.m:=by have:=h.bs.1;simpa using this
def oX.bytes{b:Bx}(h:oX w V b):Bytes w (w:Nat) b.A b.m b.bs:=In.reads h.bs
structure IR(w:X)(V D:Nat->Prop)(A:Option dA)(n:Nat)(q:List Bx):Prop where
 row:In w V 1 A n (q.flatMap Bx.cells)
 all:∀b∈q,oX w D b
def IR.len{D:aV}{A:aU}{n:Nat}{q:List Bx}(h:IR w V D A n q):q.length=n:=by have:=h.row.1;rw[ix Bx.cells 1 ui] at this;omega
theorem IR.grow{w O:X}{V D:aV}{A:aU}{n:Nat}{q:List Bx}(h:IR w V D A n q)(H:Grow w O):IR O V D A n q:=⟨h.row.grow H,λb hb=>(h.all b hb).grow H⟩
theorem IR.mono{w:X}{V D V' D':aV}{A:aU}{n:Nat}{q:List Bx}(h:IR w V D A n q)(hV:∀b,V b->V' b)(hD:∀b,D b->D' b):IR w V' D' A n q:=⟨h.row.mono hV,λb hb=>(h.all b hb).mono hD⟩
def Zs(xs:List (List UInt8))(w0:X)(u:K)(w:X):Prop:=∃(A:aU)(c:Nat)(q:List Bx),u=Z A q.length c∧IR w (New w0 w) (New w0 w) A q.length q∧q.map Bx.bs=xs∧q.length<=c∧c<=dG
def Nh:(Tryz.prog.info? 23).map (λi=>(i.zero,i.size,i.bytes))=some (some (Z none 0 0),1,24):=by kernel_rfl
def bxE:Elem W 200 23 1 24 (Z none 0 0):=⟨Tryz.underlying200,info_parts Nh,rfl,by decide,by decide⟩
def Ni(w:X)(A:aU)(n c:Nat)(l:aT)(hb:Bytes w (w:Nat) A n l)(iS:n<=c)(iO:c<=dG)(hn:n<=1099511627776):dz W 179 #[Z A n c] w λe O=>∃(xs:List (List UInt8))(k:Nat)(u:K),l8 l xs k∧e=b5 (a_ #[u,J k])∧Zs xs w u O∧Grow w O:=by
 have fj:=hb.len;go_in;go_wp2_with fail;go_loopw [4,5] (λs i wr=>∃(k:Nat)(q:List Bx)(R D:aV),k<=n∧i=J k∧Own wr R 23 1 s q.length (q.flatMap Bx.cells)∧(∀b∈q,oX wr D b)∧(∀x∈q.map Bx.bs,x.length<=65536)∧l.take k=(q.map Bx.bs).flatMap frame∧(∀b,R b->New w wr b∧¬ D b)∧(∀b,D b->New w wr b)∧Grow w wr) (λ_ i _=>n-(intOf i).toNat);case atStart=>exact⟨0,[],λ_=>False,λ_=>False,by omega,rfl,Own.nil,by simp,by simp,by simp,λ_ h=>h.elim,λ_ h=>h.elim,Grow.refl _⟩
 case round=>
  obtain⟨k,q,R,D,oL,rfl,hO,kT,h6,qX,T,hD,H⟩:=hrel;obtain⟨A1,c1,rfl,Ma,MZ,ry⟩:=hO.jL;have Yu:5*q.length<=k:=by have I:=G2 (q.map Bx.bs);rw[<-qX,bn,bj] at I;omega
  have Fw:=H.size;have hbr:Bytes wr (wr:Nat) A n l:=Reads.more (Reads.below hb H) H.size;have wI:=Reads.cut hbr (k:=k) (cap:=c) oL iS;have vn:Bytes wr (wr:Nat) (if c=k then A else A.map (·.add k)) (n-k) (l.drop k):=by simp only[cM] at wI;unfold Bytes;rw[pU,cM];exact wI
  have J_:∀(w1:X),Grow wr w1->sO (l.drop k)->∃(xs:List (List UInt8))(k':Nat)(u:K),l8 l xs k'∧Ending.returned (a_ #[Z A1 q.length c1,J k])=b5 (a_ #[u,J k'])∧Zs xs w u w1∧Grow w w1:=λw1 eD kh=>
   ⟨q.map Bx.bs,k,_,Di qX ap h6 kh,rfl,⟨A1,c1,q,rfl,⟨(Ma.mono λb hb=>(⟨(T b hb).1.1,by have:=(T b hb).1.2;have:=eD.size;omega⟩:New w w1 b)).grow eD,λb hb=>((kT b hb).mono λx Y=>(⟨(hD x Y).1,by have:=(hD x Y).2;have:=eD.size;omega⟩:New w w1 x)).grow eD⟩,rfl,MZ,ry⟩,H.trans eD⟩
  by_cases o9:c=k
  ·rw[aA o9] at vn
   have hnk:n=k:=by omega
   go_wp2_with fail;go_at_call 76;rw[show n-k=0 by omega] at vn;refine (xm _ _ 0 0 (l.drop k) vn ap ap).mono ?_;rintro e w1 ⟨x,k',ok,v,Nj,rfl,kv,eD⟩;rcases Nj with ⟨_,hx6,F4,qY⟩|⟨rfl,kh,rfl,rfl⟩
   ·exfalso
    have I:=F4.length_le;have G:=oW x;rw[bO] at I;omega
   ·go_wp2_with fail
    go_ret2;exact J_ w1 eD kh
  ·rw[aB o9] at vn
   go_wp2_with fail;go_at_call 76;refine (xm _ _ (n-k) (c-k) (l.drop k) vn ap ap).mono ?_;rintro e w1 ⟨x,k',ok,v,Nj,rfl,kv,eD⟩;rcases Nj with ⟨rfl,hx6,F4,qY⟩|⟨rfl,kh,rfl,rfl⟩
   ·have TT:=F4.length_le
    rw[bO] at TT;have h5:=oW x;have HF:=Q (Dh qX F4);obtain⟨A2,c2,rfl,It,a3P,zE⟩:=kv.jL;have hwk:IntKind.i64.wrap ((k:Int)+(k':Int))=(k:Int)+(k':Int):=by rw[IntKind.wrap_i64];omega
    have QI:=eD.size;have pG:=(Below.refl (w1:Nat) w1).alloc (bh _) (.cells #[Z A2 x.length c2] 23);have l6:∀b,R b->b<(wr:Nat):=λb hb=>(T b hb).1.2;go_wp2_with (at_builtin;refine stay ?_);refine dI ?_;refine fO (V:=R) bxE _ rfl (.tmp 21) (.tmp 23) rfl (Z A1 q.length c1) q.length (q.flatMap Bx.cells) rfl (((hO.grow l6 eD).grow (λb hb=>by have:=l6 b hb;omega) pG)) ((w1:Nat)+1) (some ⟨(w1:Nat),0,none⟩) 1 1 (Bx.cells ⟨A2,x.length,c2,x⟩) rfl (fF w1 _ 23 _ rfl _ rfl) (VO _) ap ?_;intro v2 w2 sw k7;have z6:=k7.size;simp only[fp] at z6;have hgj:Below (w:Nat) w1 w2:=Below.trans (pG.mono ap) (k7.below (B:=(w:Nat)) (λb hb=>(T b hb).1.1) (by simp;omega));have fk:Grow w w2:=Below.trans (H.trans eD) hgj;have hD2:∀b:Bx,oX w1 D b->oX w2 D b:=λb hb=>(hb.grow pG).just k7 λx Y hr=>(T x hr).2 Y;have M_:∀b:Bx,oX w1 (New wr w1) b->oX w2 (New wr w1) b:=λb hb=>(hb.grow pG).just k7 λx Y hr=>by have:=Y.1;have:=l6 x hr;omega
    go_wp2_with fail;go_roundw;case rel=>
     refine⟨k+k',q++[⟨A2,x.length,c2,x⟩],iY R (w1.alloc (.cells #[Z A2 x.length c2] 23)) w2,λb=>D b∨New wr w1 b,by omega,by go_num,?_,λb hb=>?_,λy hy=>?_,?_,λb hb=>?_,λb hb=>?_,fk⟩;·rw[bL,bJ,cE,bm,bd];exact sw
     ·rcases List.mem_append.1 hb with hb|hb
      ·exact (hD2 b ((kT b hb).grow eD)).mono λ_ => .inl
      ·rw[List.mem_singleton.1 hb];exact (M_ ⟨A2,x.length,c2,x⟩ ⟨It,a3P,zE⟩).mono λ_ => .inr
     ·rw[bI] at hy
      rcases List.mem_append.1 hy with hy|hy
      ·exact h6 y hy
      ·rw[List.mem_singleton.1 hy];exact hx6
     ·rw[bI,qY,HF.out];rfl
     ·rcases hb with hb|⟨I,G⟩
      ·refine⟨⟨(T b hb).1.1,by have:=l6 b hb;omega⟩,λhd=>?_⟩
       rcases hd with hd|hd
       ·exact (T b hb).2 hd
       ·have:=hd.1;have:=l6 b hb;omega
      ·simp only[fp] at I
       refine⟨⟨by omega,G⟩,λhd=>?_⟩;rcases hd with hd|hd
       ·have:=(hD b hd).2;omega
       ·have:=hd.2;omega
     ·rcases hb with hb|hb
      ·have:=hD b hb;exact⟨this.1,by have:=this.2;omega⟩
      ·have I:=hb.1;have G:=hb.2;exact⟨by omega,by omega⟩
    case measure=>simp[intOf];omega
   ·go_wp2_with fail
    go_ret2;exact J_ w1 eD kh
end Go.Proofs.YtpeepcmdehhbgaaGreatDoor.V
end
section
variable{P:dD}{z v:K}{w O w1 w0:X}{t bytes j:Nat}{kt:dC}{V U:aV}
namespace Go.Hop
open RowKit
structure oo{κ:Type}[DecidableEq κ](P:dD)(kt:dC)(ke:κ->K):Prop where
 check:∀(w:X)(b:Bool)(k:κ),(Instr.checkKey b 10000 kt (ke k)).run P w=.ok () w
 find:∀(w:X)(k:κ)(es:List MapEntry)(i:Nat)(q:List κ),es.map (·.key)=q.map ke->∃r,(Instr.findKey kt (ke k) es).run P w=.ok r w∧((k ∉ q∧r=none)∨∃(j:Nat)(e:MapEntry),es[j]?=some e∧q[j]?=some k∧r=some (j,e.val))
 same:∀k,Instr.sameBits 10000 (ke k) (ke k)=true
def sP(es:Array MapEntry)(c:Nat):Prop:=(es.toList.map (·.born)).Nodup∧∀e∈es.toList,e.born<c
def sP.nil:sP #[] 0:=⟨by simp,by simp⟩
theorem sP.push{es:Array MapEntry}{c:Nat}(h:sP es c)(k v:K):sP (es.push { key:=k,val:=v,born:=c }) (c+1):=by
 refine⟨?_,λe he=>?_⟩
 ·rw[Array.toList_push,bI,List.nodup_append]
  refine⟨h.1,by simp,λa ha b hb=>?_⟩;simp only[bQ,cQ,List.mem_singleton] at hb;obtain⟨e,he,rfl⟩:=List.mem_map.1 ha;have:=h.2 e he;omega
 ·rw[Array.toList_push] at he
  rcases List.mem_append.1 he with he|he
  ·have:=h.2 e he;omega
  ·rw[List.mem_singleton] at he
   rw[he];exact Nat.lt_succ_self c
theorem sP.modify{es:Array MapEntry}{c:Nat}(h:sP es c)(j:Nat)(k v:K):sP (es.modify j λe=>{ e with key:=k,val:=v }) c:=by
 have e1:(es.modify j λe=>{ e with key:=k,val:=v }).toList.map (·.born)=es.toList.map (·.born):=by
  apply List.ext_getElem?;intro i;simp only[List.getElem?_map,Array.getElem?_toList,Array.getElem?_modify];by_cases wJ:j=i
  ·rw[aA wJ]
   cases es[i]?<;>rfl
  ·rw[aB wJ]
 refine⟨by rw[e1];exact h.1,λe he=>?_⟩;have I:e.born∈(es.modify j λe=>{ e with key:=k,val:=v }).toList.map (·.born):=List.mem_map.2 ⟨e,he,rfl⟩;rw[e1] at I;obtain⟨e',he',G⟩:=List.mem_map.1 I;rw[<-G];exact h.2 e' he'
def sP.erase{es:Array MapEntry}{c:Nat}(h:sP es c)(hj:j<es.size):sP (es.eraseIdx j hj) c:=by
 refine⟨?_,λe he=>?_⟩
 ·rw[Array.toList_eraseIdx]
  exact h.1.sublist ((List.eraseIdx_sublist _ j).map _)
 ·rw[Array.toList_eraseIdx] at he
  exact h.2 e (cY he)
def eI{κ:Type}(ke:κ->K)(b:Nat)(q:List (κ×K)):dW:=λw V=>
 V b∧(q.map Prod.fst).Nodup∧∃(es:Array MapEntry)(clock:Nat),w.heap[b]?=some (.map es clock)∧es.toList.map (λe=>(e.key,e.val))=(q.map λp=>(ke p.1,p.2))∧sP es clock
section
variable{κ:Type}[DecidableEq κ]{t et:dC}{ke:κ->K}{b:Nat}{q:List (κ×K)}{V':aV}
def uk(q:List (κ×K))(k:κ):Option K:=(q.find? λp=>decide (p.1=k)).map (·.2)
def l9(q:List (κ×K))(k:κ)(v:K):List (κ×K):=if k∈q.map Prod.fst then q.map (λp=>if p.1=k then (k,v) else p) else q++[(k,v)]
def lD(q:List (κ×K))(k:κ):List (κ×K):=q.filter λp=>decide (p.1≠k)
def eI.framed(b:Nat)(q:List (κ×K)):eu (eI ke b q):=λw O V ⟨I,G,es,c,L,h4⟩ N=>⟨I,G,es,c,(N b I).trans L,h4⟩
def eI.wide(h:eI ke b q w V)(hV:∀b,V b->V' b):eI ke b q w V':=⟨hV b h.1,h.2⟩
def eI.made(w:X):eI (κ:=κ) ke (w:Nat) [] (w.alloc (.map #[] 0)) (λb=>b=(w:Nat)):=⟨rfl,by simp,#[],0,heap_alloc_new w _,rfl,sP.nil⟩
theorem mE{α:Type}:∀{l:List α},l.Nodup->∀{i j:Nat}{a:α},l[i]?=some a->l[j]?=some a->i=j
 | [],_,i,j,a,hi,_=>by simp at hi
 | x::l,hn,0,0,a,_,_=>rfl
 | x::l,hn,0,j+1,a,hi,hj=>by
   simp at hi;subst hi;exact absurd (List.mem_of_getElem? (by simpa using hj)) (List.nodup_cons.1 hn).1
 | x::l,hn,i+1,0,a,hi,hj=>by
   simp at hj;subst hj;exact absurd (List.mem_of_getElem? (by simpa using hi)) (List.nodup_cons.1 hn).1
 | x::l,hn,i+1,j+1,a,hi,hj=>congrArg (·+1) (mE (List.nodup_cons.1 hn).2 (i:=i) (j:=j) (a:=a) (by simpa using hi) (by simpa using hj))
theorem mF{α β:Type}(f:α->β):∀(l:List α)(i:Nat),(l.eraseIdx i).map f=(l.map f).eraseIdx i
 | [],_=>rfl
 | _::_,0=>rfl
 | x::l,i+1=>by simp[mF f l i]
theorem G3{k:κ}{v:K}:∀{q:List (κ×K)}{j:Nat},(q.map Prod.fst).Nodup->q[j]?=some (k,v)->uk q k=some v
 | [],j,_,h=>by simp at h
 | p::q,0,_,h=>by simp at h;subst h;simp[uk]
 | p::q,j+1,hn,h=>by
   simp only[bQ,List.nodup_cons] at hn;have hq:q[j]?=some (k,v):=by simpa using h
   have jT:p.1≠k:=λe=>hn.1 (by rw[e];exact List.mem_map.2 ⟨_,List.mem_of_getElem? hq,rfl⟩);have ih:=G3 hn.2 hq;unfold uk at ih ⊢;rw[List.find?_cons_of_neg (by simpa using jT)];exact ih
theorem xn{k:κ}:∀{q:List (κ×K)},k ∉ q.map Prod.fst->uk q k=none
 | [],_=>rfl
 | p::q,h=>by
   simp only[bQ,cI,not_or] at h;have ih:=xn h.2;unfold uk at ih ⊢;rw[List.find?_cons_of_neg (by simpa using λe=>h.1 e.symm)];exact ih
def oY{es:List MapEntry}(h:es.map (λe=>(e.key,e.val))=q.map λp=>(ke p.1,p.2)):es.map (·.key)=(q.map Prod.fst).map ke:=by have:=congrArg (List.map Prod.fst) h;simpa [List.map_map,Function.comp_def] using this
theorem sQ{es:List MapEntry}(h:es.map (λe=>(e.key,e.val))=q.map λp=>(ke p.1,p.2)){e:MapEntry}{k:κ}(he:es[j]?=some e)(N:(q.map Prod.fst)[j]?=some k):q[j]?=some (k,e.val):=by
 have I:=congrArg (λl=>l[j]?) h;simp only[List.getElem?_map,he,df] at I;rw[List.getElem?_map] at N;cases hq:q[j]? with
 | none=>rw[hq] at N;cases N
 | some p=>
   rw[hq] at N I;injection N with N;injection I with I;injection I with _ G;rw[G,<-N]
def eI.look(abk:oo P kt ke)(ht:P.underlying t=some (.map kt et))(hz:(zeroValue et).run P w=.ok z w)(h:eI ke b q w V)(k:κ)(c:Bool):(Instr.lookup t (.map (some b)) (ke k) c).run P w=.ok (if c then a_ #[(uk q k).getD z,aY (uk q k).isSome] else (uk q k).getD z) w:=by
 obtain⟨_,hn,es,cl,hb,he,_⟩:=h;obtain⟨r,hr,nh⟩:=abk.find w k es.toList 0 (q.map Prod.fst) (oY he);have H:(getObj b).run P w=.ok (.map es cl) w:=MapKept.run_getObj_map hb;rcases nh with ⟨I,rfl⟩|⟨j,e,I,G,rfl⟩
 ·rw[xn I]
  cases c<;>simp[Instr.lookup,run_underlying ht,H,abk.check w _ k,hr,hz,Result.andThen]
 ·rw[G3 hn (sQ he I G)]
  cases c<;>simp[Instr.lookup,run_underlying ht,H,abk.check w _ k,hr,Result.andThen]
def heap_set(w:X)(b:Nat)(o:Obj)(hb:b<(w:Nat)):({ w with heap:=w.heap.setIfInBounds b o }:X).heap[b]?=some o:=by simp[Array.getElem?_setIfInBounds,hb]
def pW(w:X)(b:Nat)(o:Obj):dM (λc=>c=b) w { w with heap:=w.heap.setIfInBounds b o }:=⟨rfl,rfl,rfl,by simp,λi _ jT=>by simp only[Array.getElem?_setIfInBounds];rw[aB (λe=>jT e.symm)]⟩
def eI.put(abk:oo P kt ke)(ht:P.underlying t=some (.map kt et))(h:eI ke b q w V)(k:κ)(v:K):∃O,(Instr.mapUpdate t (.map (some b)) (ke k) v).run P w=.ok () O∧eI ke b (l9 q k v) O V∧dM (λc=>c=b) w O:=by
 obtain⟨hv,hn,es,cl,hb,he,z7⟩:=h;obtain⟨r,hr,nh⟩:=abk.find w k es.toList 0 (q.map Prod.fst) (oY he);have fS:b<(w:Nat):=(Array.getElem?_eq_some_iff.1 hb).1;have H:(getObj b).run P w=.ok (.map es cl) w:=MapKept.run_getObj_map hb;rcases nh with ⟨I,rfl⟩|⟨j,e,I,G,rfl⟩
 ·refine⟨_,?_,⟨hv,?_,_,_,heap_set w b (.map (es.push { key:=ke k,val:=v,born:=cl }) (cl+1)) fS,?_,z7.push _ _⟩,pW w b _⟩
  ·simp[Instr.mapUpdate,run_underlying ht,H,abk.check w _ k,hr,Result.andThen,MapKept.run_setObj_map _ hb]
  ·unfold l9
   rw[aB I,bI,List.nodup_append];refine⟨hn,by simp,?_⟩;intro a ha c E;simp at E;subst E;exact λe=>I (by rw[<-e];exact ha)
  ·unfold l9
   rw[aB I,Array.toList_push,bI,he,bI];rfl
 ·have m9:k∈q.map Prod.fst:=List.mem_of_getElem? G
  have hq:=sQ he I G;have hek:e.key=ke k:=by have L:=congrArg (λl=>l[j]?) he;simp only[List.getElem?_map,I,hq,df] at L;injection L with L;injection L with L
  have CP:es[j]?=some e:=by simpa using I
  refine⟨_,?_,⟨hv,?_,_,_,heap_set w b (.map (es.modify j λe=>{ e with key:=ke k,val:=v }) cl) fS,?_,z7.modify j _ _⟩,pW w b _⟩;·simp[Instr.mapUpdate,run_underlying ht,H,abk.check w _ k,hr,Result.andThen,MapKept.run_setObj_map _ hb,Instr.keyThatStays,CP,hek,abk.same k]
  ·unfold l9
   rw[aA m9,List.map_map];have:(Prod.fst ∘ λp:κ×K=>if p.1=k then (k,v) else p)=Prod.fst:=by
    funext p;simp only[Function.comp];split;·rename_i hp;exact hp.symm
    ·rfl
   rw[this];exact hn
  ·unfold l9
   rw[aA m9];apply List.ext_getElem?;intro i;have L:=congrArg (λl=>l[i]?) he;simp only[List.getElem?_map,Array.getElem?_toList,Array.getElem?_modify] at L ⊢;by_cases wJ:j=i
   ·subst wJ
    rw[aA rfl,CP,hq];simp
   ·rw[aB wJ]
    cases Qh:q[i]? with
    | none=>rw[Qh] at L;simpa using L
    | some p=>
      have jT:p.1≠k:=λe=>wJ (by
       have e1:(q.map Prod.fst)[i]?=some k:=by rw[List.getElem?_map,Qh,<-e];rfl
       exact mE hn G e1)
      rw[Qh] at L;simp only[df,aB jT];simpa using L
def Nk{k:κ}(v:K)(h:k ∉ q.map Prod.fst):l9 q k v=q++[(k,v)]:=aB h
def eI.just(h:eI ke b q w V)(hj:dM U w O)(hU:¬ U b):eI ke b q O V:=by obtain⟨I,G,es,c,L,h4⟩:=h;exact⟨I,G,es,c,(hj.block b (Array.getElem?_eq_some_iff.1 L).1 hU).trans L,h4⟩
def eI.del(abk:oo P kt ke)(ht:P.underlying t=some (.map kt et))(h:eI ke b q w V)(k:κ)(ty:dC):∃O,(Builtin.delete_ #[t,kt] ty #[.map (some b),ke k]).run P w=.ok (a_ #[]) O∧eI ke b (lD q k) O V∧dM (λc=>c=b) w O:=by
 obtain⟨hv,hn,es,cl,hb,he,z7⟩:=h;obtain⟨r,hr,nh⟩:=abk.find w k es.toList 0 (q.map Prod.fst) (oY he);have fS:b<(w:Nat):=(Array.getElem?_eq_some_iff.1 hb).1;have H:(getObj b).run P w=.ok (.map es cl) w:=MapKept.run_getObj_map hb;rcases nh with ⟨I,rfl⟩|⟨j,e,I,G,rfl⟩
 ·have hq:lD q k=q:=by
   unfold lD;rw[List.filter_eq_self];intro p hp;simp only[ne_eq,decide_not,Bool.not_eq_eq_eq_not,Bool.not_true,decide_eq_false_iff_not];exact λe=>I (by rw[<-e];exact List.mem_map.2 ⟨p,hp,rfl⟩)
  rw[hq]
  refine⟨_,?_,⟨hv,hn,_,_,heap_set w b (.map es cl) fS,he,z7⟩,pW w b _⟩
  simp[Builtin.delete_,run_underlying ht,H,abk.check w _ k,hr,Result.andThen,MapKept.run_setObj_map _ hb]
 ·have hq:=sQ he I G
  have TW:=(List.getElem?_eq_some_iff.1 hq).1;have zQ:j<es.size:=by simpa using (List.getElem?_eq_some_iff.1 I).1
  have TX:lD q k=q.eraseIdx j:=by
   unfold lD;have Y1:q=q.take j++(k,e.val)::q.drop (j+1):=by have h6:=List.getElem_cons_drop TW;rw[show q[j]=(k,e.val) from (List.getElem?_eq_some_iff.1 hq).2] at h6;rw[h6,dt]
   have jT:∀i p,q[i]?=some p->i≠j->p.1≠k:=λi p hp wJ e6=>by
    have e1:(q.map Prod.fst)[i]?=some k:=by rw[List.getElem?_map,hp,<-e6];rfl
    exact wJ (mE hn G e1).symm
   rw[List.eraseIdx_eq_take_drop_succ];conv=>lhs;rw[Y1]
   rw[List.filter_append,List.filter_cons_of_neg (by simp)];congr 1
   ·rw[List.filter_eq_self]
    intro p hp;obtain⟨i,hi,rfl⟩:=List.getElem_of_mem hp;have tR:=hi;rw[bn] at tR;rw[List.getElem_take];simpa using jT i _ (List.getElem?_eq_getElem ap) ap
   ·rw[List.filter_eq_self]
    intro p hp;obtain⟨i,hi,rfl⟩:=List.getElem_of_mem hp;have tR:=hi;rw[bO] at tR;rw[List.getElem_drop];simpa using jT (j+1+i) _ (List.getElem?_eq_getElem ap) ap
  refine⟨_,?_,⟨hv,?_,_,_,heap_set w b (.map (es.eraseIdxIfInBounds j) cl) fS,?_,by rw[Array.eraseIdxIfInBounds,dif_pos zQ];exact z7.erase zQ⟩,pW w b _⟩;·simp[Builtin.delete_,run_underlying ht,H,abk.check w _ k,hr,Result.andThen,MapKept.run_setObj_map _ hb]
  ·rw[TX]
   exact hn.sublist ((List.eraseIdx_sublist q j).map Prod.fst)
  ·rw[TX,Array.eraseIdxIfInBounds,dif_pos zQ]
   simp only[Array.toList_eraseIdx];rw[mF,mF,he]
end
section
def zR{qk:IntKind}(N:P.underlying kt=some (.int qk)):oo (κ:=Int) P kt (λx => .int qk x) where
 check w b k:=by
  have main:∀n,(Instr.checkKey b (n+1) kt (.int qk k)).run P w=.ok () w:=λn=>by simp[Instr.checkKey,run_underlying N]
  exact main 9999
 find w k es i q h:=by
  have main:∀(es:List MapEntry)(q:aN)(i:Nat),es.map (·.key)=q.map (λx=>Value.int qk x)->(k ∉ q∧Instr.findNow (.int qk) (.int qk k) es i=some none)∨∃(j:Nat)(e:MapEntry),es[j]?=some e∧q[j]?=some k∧Instr.findNow (.int qk) (.int qk k) es i=some (some (i+j,e.val)):=by
   intro es;induction es with
   | nil=>
     intro q i h;cases q with
     | nil=>exact .inl ⟨by simp,rfl⟩
     | cons=>simp at h
   | cons e es ih=>
     intro q i h;cases q with
     | nil=>simp at h
     | cons x q=>
       simp only[bQ,List.cons.injEq] at h;obtain⟨I,G⟩:=h;by_cases Y:k=x
       ·subst Y
        exact .inr ⟨0,e,rfl,rfl,by simp[Instr.findNow,I,Instr.sameNow]⟩
       ·have hf:Instr.findNow (.int qk) (.int qk k) (e::es) i=Instr.findNow (.int qk) (.int qk k) es (i+1):=by
         have hkx:(k == x)=false:=by simpa using Y
         simp[Instr.findNow,I,Instr.sameNow,hkx]
        rcases ih q (i+1) G with ⟨L,h4⟩|⟨j,e',L,h4,h5⟩
        ·exact .inl ⟨by simp[Y,L],by rw[hf,h4]⟩
        ·exact .inr ⟨j+1,e',by simpa using L,by simpa using h4,by rw[hf,h5];simp;omega⟩
  rcases main es q 0 h with ⟨I,G⟩|⟨j,e,I,G,L⟩
  ·exact⟨none,by simp[Instr.findKey,run_underlying N,G],.inl ⟨I,rfl⟩⟩
  ·exact⟨some (j,e.val),by simp[Instr.findKey,run_underlying N,L],.inr ⟨j,e,I,G,rfl⟩⟩
 same k:=by simp[Instr.sameBits]
def sR{κ:Type}[DecidableEq κ]{ke:κ->K}{fs:Array Field}(N:P.underlying kt=some (.struct fs))(E:∀(w:X)(b:Bool)(k:κ),(Instr.checkKey b 10000 kt (ke k)).run P w=.ok () w)
 (he:∀(w:X)(a b:κ),(Op.equal kt (ke a) (ke b)).run P w=.ok (decide (a=b)) w) (hs:∀k,Instr.sameBits 10000 (ke k) (ke k)=true):oo P kt ke where
 check:=E
 same:=hs
 find w k es i q h:=by
  have main:∀(es:List MapEntry)(q:List κ)(i:Nat),es.map (·.key)=q.map ke->∃r,(Instr.findAsking kt (ke k) es i).run P w=.ok r w∧((k ∉ q∧r=none)∨∃(j:Nat)(e:MapEntry),es[j]?=some e∧q[j]?=some k∧r=some (i+j,e.val)):=by
   intro es;induction es with
   | nil=>
     intro q i h;cases q with
     | nil=>exact⟨none,by simp[Instr.findAsking],.inl ⟨by simp,rfl⟩⟩
     | cons=>simp at h
   | cons e es ih=>
     intro q i h;cases q with
     | nil=>simp at h
     | cons x q=>
       simp only[bQ,List.cons.injEq] at h;obtain⟨I,G⟩:=h;by_cases Y:k=x
       ·subst Y
        exact⟨some (i,e.val),by simp[Instr.findAsking,I,he],.inr ⟨0,e,rfl,rfl,rfl⟩⟩
       ·obtain⟨r,hr,nh⟩:=ih q (i+1) G
        refine⟨r,by simp[Instr.findAsking,I,he,Y,hr],?_⟩;rcases nh with ⟨L,h4⟩|⟨j,e',L,h4,h5⟩
        ·exact .inl ⟨by simp[Y,L],h4⟩
        ·exact .inr ⟨j+1,e',by simpa using L,by simpa using h4,by rw[h5];simp;omega⟩
  obtain⟨r,hr,nh⟩:=main es q 0 h;refine⟨r,?_,by simpa using nh⟩;cases es with
  | nil=>simpa [Instr.findKey,run_underlying N,Instr.findNow,Instr.findAsking] using hr
  | cons e es=>simp[Instr.findKey,run_underlying N,Instr.findNow,Instr.sameNow,hr]
end
section
variable{α:Type}(e size:Nat)(cells:α->List K)(good:X->(Nat->Prop)->α->Prop)
def iz:Prop:=∀(w:X)(D D':aV)(a:α),good w D a->(∀b,D b->D' b)->good w D' a
def Acc(w0:X)(v:K)(q:List α)(w:X):Prop:=∃R D:aV,Own w R e size v q.length (q.flatMap cells)∧(∀b∈q,good w D b)∧(∀b,R b->New w0 w b∧¬ D b)∧(∀b,D b->New w0 w b)∧Grow w0 w
variable{e size cells good}{q:List α}
theorem Acc.nil(w0:X):Acc e size cells good w0 (Z none 0 0) [] w0:=⟨λ_=>False,λ_=>False,Own.nil,by simp,λ_ h=>h.elim,λ_ h=>h.elim,Grow.refl _⟩
def Acc.base(h:Acc e size cells good w0 v q w):Grow w0 w:=by obtain⟨_,_,_,_,_,_,h⟩:=h;exact h
def Acc.grow(hG:jr good)(h:Acc e size cells good w0 v q w)(H:Grow w O):Acc e size cells good w0 v q O:=by obtain⟨R,D,I,G,L,h4,h5⟩:=h;have hs:=H.size;exact⟨R,D,I.grows H,λb hb=>hG _ _ _ _ _ (G b hb) (dM.dK (V:=λ_=>False) H) (λ_ _ h=>h),λb hb=>⟨⟨(L b hb).1.1,bw (L b hb).1.2 hs⟩,(L b hb).2⟩,λb hb=>⟨(h4 b hb).1,bw (h4 b hb).2 hs⟩,h5.trans H⟩
def Acc.slice(h:Acc e size cells good w0 v q w):∃A c,v=Z A q.length c:=by obtain⟨R,D,I,_⟩:=h;obtain⟨A,c,I,_⟩:=I.reads;exact⟨A,c,I⟩
def Acc.done(hM:iz good)(h:Acc e size cells good w0 v q w):∃A c,v=Z A q.length c∧In w (New w0 w) size A q.length (q.flatMap cells)∧(∀b∈q,good w (New w0 w) b)∧q.length<=c∧c<=dG∧Grow w0 w:=by obtain⟨R,D,I,G,L,h4,h5⟩:=h;obtain⟨A,c,rfl,h6,h7,h8⟩:=I.jL;exact⟨A,c,rfl,h6.mono λb hb=>(L b hb).1,λb hb=>hM _ _ _ _ (G b hb) h4,h7,h8,h5⟩
def Rq(abl:Elem P t e size bytes z)(hG:jr good)(hM:iz good)(hl:∀a,(cells a).length=size)(m_:∀a,∀u∈cells a,u.oneCell'=true)
 (h:Acc e size cells good w0 v q w) (H:Grow w w1) {b:α} (hb:good w1 (New w w1) b) (fw:(q.length+1)*bytes<=140737488355328) (ty:dC) (c:Nat):∃v' O,(cn #[t,t] ty #[v,Z (some ⟨(w1:Nat),0,none⟩) 1 c]).run P (w1.alloc (.cells (cells b).toArray e))=.ok v' O∧Acc e size cells good w0 v' (q++[b]) O:=by
 obtain⟨R,D,I,G,L,h4,h5⟩:=h;have fk:Grow w1 (w1.alloc (.cells (cells b).toArray e)):=(Below.refl _ w1).alloc (bh _) _;have fu:=H.trans fk;have rx:Reads (w1.alloc (.cells (cells b).toArray e)) ((w1:Nat)+1) size (some ⟨(w1:Nat),0,none⟩) 1 (cells b):=by have:=fF w1 (cells b).toArray e (0,0) (n:=1) (size:=size) (by simp[hl]) _ rfl;simpa using this
 obtain⟨v',O,eR,hO,hj⟩:=jq abl _ ty v q.length (q.flatMap cells) (I.grows fu) _ _ 1 c (cells b) rx (m_ b) fw;have s1:=H.size;have s2:(w1.alloc (.cells (cells b).toArray e)).heap.size=(w1:Nat)+1:=fp _ _;have s3:=hj.size;have s0:=h5.size;rw[s2] at s3;have l6:∀x,R x->x<(w:Nat):=λx Y=>(L x Y).1.2;refine⟨v',O,eR,iY R (w1.alloc (.cells (cells b).toArray e)) O,λx=>D x∨New w w1 x,?_,λa ha=>?_,λx Y=>?_,λx Y=>?_,?_⟩
 ·rw[bL,bJ,cE,bm,bd]
  exact hO
 ·rcases List.mem_append.1 ha with ha|ha
  ·exact hM _ D _ _ (hG _ _ _ R _ (hG _ _ _ _ _ (G a ha) (dM.dK (V:=λ_=>False) fu) (λ_ _ h=>h)) hj λx Y hr=>(L x hr).2 Y) λ_ => .inl
  ·rw[List.mem_singleton.1 ha]
   exact hM _ (New w w1) _ _ (hG _ _ _ R _ (hG _ _ _ _ _ hb (dM.dK (V:=λ_=>False) fk) (λ_ _ h=>h)) hj λx Y hr=>by have:=Y.1;have:=l6 x hr;omega) λ_ => .inr
 ·rcases Y with Y|⟨rI,lw⟩
  ·refine⟨⟨(L x Y).1.1,by have:=l6 x Y;omega⟩,λhd=>?_⟩
   rcases hd with hd|hd
   ·exact (L x Y).2 hd
   ·have:=hd.1;have:=l6 x Y;omega
  ·rw[s2] at rI
   refine⟨⟨by omega,lw⟩,λhd=>?_⟩;rcases hd with hd|hd
   ·have:=(h4 x hd).2;omega
   ·have:=hd.2;omega
 ·rcases Y with Y|Y
  ·exact⟨(h4 x Y).1,by have:=(h4 x Y).2;omega⟩
  ·exact⟨by have:=Y.1;omega,by have:=Y.2;omega⟩
 ·exact Below.trans (h5.trans fu) (hj.below (B:=(w0:Nat)) (λx Y=>(L x Y).1.1) ap)
def G4(abl:Elem P t e size bytes z)(hG:jr good)(hM:iz good)(hl:∀a,(cells a).length=size)(m_:∀a,∀u∈cells a,u.oneCell'=true)
 {ops:Array dE} {rest:List dE} {o:dE} {a:dF} {abo:Exit->dF->X->Prop} (hw:bN o (yielded ops a.tmps)=true) (s x:Operand)
 (ho:o.op=.call { callee := .builtin .append,args:=#[s,x],argTypes:=#[t,t] })
 (h:Acc e size cells good w0 v q w) (H:Grow w w1) (b:α) (hb:good w1 (New w w1) b) (fw:(q.length+1)*bytes<=140737488355328)
 (hs:a.eval s=v) {c:Nat} (Y:a.eval x=Z (some ⟨(w1:Nat),0,none⟩) 1 c)
 (k:∀v' O,Acc e size cells good w0 v' (q++[b]) O->wpList P ops abo rest (a.put o.dst v') O):wpList P ops abo (o::rest) a (w1.alloc (.cells (cells b).toArray e)):=by obtain⟨v',O,eR,hA⟩:=Rq abl hG hM hl m_ h H hb fw o.type c;unfold wpList;rw[aA hw];refine .inl ?_;unfold Oper.wp execOp;simp only[ho,resolve,invoke,builtin,Sem.run_bind,Sem.run_pure,Result.andThen_ok,cV,bQ,cQ,hs,Y,eR];exact k v' O hA
end
def eJ.all{g:Nat}{t:dC}{cs:aP}(h:eJ w g t cs)(vs:List K)(hl:vs.length=cs.size):eJ (w.setCells g 0 vs) g t vs.toArray:=by
 obtain⟨cur,I,G,L⟩:=iC g t (0,0) vs 0 w cs h ap;have h4:cur=vs.toArray:=by apply Array.ext';rw[L,List.take_zero,ch,cJ,cH (by simp;omega),bm]
 rw[h4] at I;exact I
def oq{α:Type}:jr (λ(_:X)(_:aV)(_:α)=>True):=λ_ _ _ _ _ _ _ _=>trivial
def ul{α:Type}:iz (λ(_:X)(_:aV)(_:α)=>True):=λ_ _ _ _ _ _=>trivial
section
variable{α:Type}(e size:Nat)(cells:α->List K)(good:X->(Nat->Prop)->α->Prop)
def ot(B:Nat)(v:K)(q:List α)(w:X):Prop:=∃R D:aV,Own w R e size v q.length (q.flatMap cells)∧(∀b∈q,good w D b)∧(∀b,R b->(B<=b∧b<(w:Nat))∧¬ D b)∧(∀b,D b->B<=b∧b<(w:Nat))∧B<=(w:Nat)
variable{e size cells good}{B:Nat}{q:List α}
theorem ot.nil(h:B<=(w:Nat)):ot e size cells good B (Z none 0 0) [] w:=⟨λ_=>False,λ_=>False,Own.nil,by simp,λ_ h=>h.elim,λ_ h=>h.elim,h⟩
def ot.just(hG:jr good)(h:ot e size cells good B v q w)(hj:dM U w O)(hU:∀b,U b->b<B∨(w:Nat)<=b):ot e size cells good B v q O:=by
 obtain⟨R,D,I,G,L,h4,h5⟩:=h;have hs:=hj.size;refine⟨R,D,I.keep λb hb=>hj.block b (L b hb).1.2 λhu=>?_,λb hb=>hG _ _ _ _ _ (G b hb) hj λx Y hu=>?_,λb hb=>⟨⟨(L b hb).1.1,bw (L b hb).1.2 hs⟩,(L b hb).2⟩,λb hb=>⟨(h4 b hb).1,bw (h4 b hb).2 hs⟩,bB h5 hs⟩;·have:=(L b hb).1;have:=hU b hu;omega
 ·have:=h4 x Y;have:=hU x hu;omega
def ot.grow(hG:jr good)(h:ot e size cells good B v q w)(H:Grow w O):ot e size cells good B v q O:=h.just hG (U:=λ_=>False) (dM.dK H) λ_ h=>h.elim
def ot.slice(h:ot e size cells good B v q w):∃A c,v=Z A q.length c:=by obtain⟨R,D,I,_⟩:=h;obtain⟨A,c,I,_⟩:=I.reads;exact⟨A,c,I⟩
def ot.done(hM:iz good)(h:ot e size cells good B v q w):∃A c,v=Z A q.length c∧In w (λb=>B<=b∧b<(w:Nat)) size A q.length (q.flatMap cells)∧(∀b∈q,good w (λb=>B<=b∧b<(w:Nat)) b)∧q.length<=c∧c<=dG:=by obtain⟨R,D,I,G,L,h4,h5⟩:=h;obtain⟨A,c,rfl,h6,h7,h8⟩:=I.jL;exact⟨A,c,rfl,h6.mono λb hb=>(L b hb).1,λb hb=>hM _ _ _ _ (G b hb) h4,h7,h8⟩
def Nl(abl:Elem P t e size bytes z)(hG:jr good)(hM:iz good)(hl:∀a,(cells a).length=size)(m_:∀a,∀u∈cells a,u.oneCell'=true)
 (h:ot e size cells good B v q w1) {b:α} {F:aV} (hb:good w1 F b) (hF:∀x,F x->B<=x∧x<(w1:Nat)) (hdis:∀R D:aV,Own w1 R e size v q.length (q.flatMap cells)->True) (qX:∀x,F x->∀A c g,v=Z (some ⟨g,A,none⟩) q.length c->x≠g) (fw:(q.length+1)*bytes<=140737488355328) (ty:dC) (c:Nat):∃v' O,(cn #[t,t] ty #[v,Z (some ⟨(w1:Nat),0,none⟩) 1 c]).run P (w1.alloc (.cells (cells b).toArray e))=.ok v' O∧ot e size cells good B v' (q++[b]) O∧dM (λx=>B<=x) w1 O:=by
 obtain⟨R0,D,I,G,L,h4,h5⟩:=h;obtain⟨R,I,hR0,hRF⟩:∃R:aV,Own w1 R e size v q.length (q.flatMap cells)∧(∀x,R x->R0 x)∧∀x,R x->¬ F x:=by
  obtain⟨ha,lA|⟨g,cap,cur,hv,hV,r⟩⟩:=I;·exact⟨λ_=>False,⟨ha,.inl lA⟩,λ_ h=>h.elim,λ_ h=>h.elim⟩
  ·exact⟨λx=>x=g,⟨ha,.inr ⟨g,cap,cur,hv,rfl,r⟩⟩,λx Y=>Y▸hV,λx Y hf=>qX x hf 0 cap g hv Y⟩
 have L:∀x,R x->(B<=x∧x<(w1:Nat))∧¬ D x:=λx Y=>L x (hR0 x Y);have fk:Grow w1 (w1.alloc (.cells (cells b).toArray e)):=(Below.refl _ w1).alloc (bh _) _;have rx:Reads (w1.alloc (.cells (cells b).toArray e)) ((w1:Nat)+1) size (some ⟨(w1:Nat),0,none⟩) 1 (cells b):=by have:=fF w1 (cells b).toArray e (0,0) (n:=1) (size:=size) (by simp[hl]) _ rfl;simpa using this
 obtain⟨v',O,eR,hO,hj⟩:=jq abl _ ty v q.length (q.flatMap cells) (I.grows fk) _ _ 1 c (cells b) rx (m_ b) fw;have s2:(w1.alloc (.cells (cells b).toArray e)).heap.size=(w1:Nat)+1:=fp _ _;have s3:=hj.size;rw[s2] at s3;have l6:∀x,R x->x<(w1:Nat):=λx Y=>(L x Y).1.2;refine⟨v',O,eR,⟨iY R (w1.alloc (.cells (cells b).toArray e)) O,λx=>D x∨F x,?_,λa ha=>?_,λx Y=>?_,λx Y=>?_,by omega⟩,(dM.dK fk).trans (hj.imp λx Y=>(L x Y).1.1)⟩
 ·rw[bL,bJ,cE,bm,bd]
  exact hO
 ·rcases List.mem_append.1 ha with ha|ha
  ·exact hM _ D _ _ (hG _ _ _ R _ (hG _ _ _ _ _ (G a ha) (dM.dK (V:=λ_=>False) fk) (λ_ _ h=>h)) hj λx Y hr=>(L x hr).2 Y) λ_ => .inl
  ·rw[List.mem_singleton.1 ha]
   exact hM _ F _ _ (hG _ _ _ R _ (hG _ _ _ _ _ hb (dM.dK (V:=λ_=>False) fk) (λ_ _ h=>h)) hj λx Y hr=>hRF x hr Y) λ_ => .inr
 ·rcases Y with Y|⟨rI,lw⟩
  ·refine⟨⟨(L x Y).1.1,by have:=l6 x Y;omega⟩,λhd=>?_⟩
   rcases hd with hd|hd
   ·exact (L x Y).2 hd
   ·exact hRF x Y hd
  ·rw[s2] at rI
   refine⟨⟨by omega,lw⟩,λhd=>?_⟩;rcases hd with hd|hd
   ·have:=(h4 x hd).2;omega
   ·have:=(hF x hd).2;omega
 ·rcases Y with Y|Y
  ·exact⟨(h4 x Y).1,by have:=(h4 x Y).2;omega⟩
  ·exact⟨(hF x Y).1,by have:=(hF x Y).2;omega⟩
def u_(abl:Elem P t e size bytes z)(hl:∀a,(cells a).length=size)(m_:∀a,∀u∈cells a,u.oneCell'=true)
 {ops:Array dE} {rest:List dE} {o:dE} {a:dF} {abo:Exit->dF->X->Prop} (hw:bN o (yielded ops a.tmps)=true) (s x:Operand)
 (ho:o.op=.call { callee := .builtin .append,args:=#[s,x],argTypes:=#[t,t] })
 (h:ot e size cells (λ_ _ _=>True) B v q w1) (b:α) (fw:(q.length+1)*bytes<=140737488355328)
 (hs:a.eval s=v) {c:Nat} (Y:a.eval x=Z (some ⟨(w1:Nat),0,none⟩) 1 c)
 (k:∀v' O,ot e size cells (λ_ _ _=>True) B v' (q++[b]) O->dM (λx=>B<=x) w1 O->wpList P ops abo rest (a.put o.dst v') O):wpList P ops abo (o::rest) a (w1.alloc (.cells (cells b).toArray e)):=by obtain⟨v',O,eR,hA,hj⟩:=Nl abl oq ul hl m_ h (b:=b) (F:=λ_=>False) trivial (λ_ h=>h.elim) (λ_ _ _=>trivial) (λ_ h=>h.elim) fw o.type c;unfold wpList;rw[aA hw];refine .inl ?_;unfold Oper.wp execOp;simp only[ho,resolve,invoke,builtin,Sem.run_bind,Sem.run_pure,Result.andThen_ok,cV,bQ,cQ,hs,Y,eR];exact k v' O hA hj
end
section
variable{α:Type}(e size:Nat)(cells:α->List K)(good:X->(Nat->Prop)->α->Prop)
def lE:Prop:=∀(w O:X)(D:aV)(a:α),good w D a->(∀b,D b->O.heap[b]?=w.heap[b]?)->good O D a
def h_(u:K)(q:List α):dW:=λw V=>∃R D:aV,Own w R e size u q.length (q.flatMap cells)∧(∀b∈q,good w D b)∧(∀b,R b->V b∧¬ D b)∧(∀b,D b->V b)
variable{e size cells good}
def h_.framed(hG:lE good)(u:K)(q:List α):eu (h_ e size cells good u q):=λw O V ⟨R,D,I,G,L,h4⟩ N=>
 ⟨R,D,I.keep λb hb=>N b (L b hb).1,λb hb=>hG _ _ _ _ (G b hb) λx Y=>N x (h4 x Y),L,h4⟩
def h_.wide(u:K)(q:List α):C_ (h_ e size cells good u q):=λ_ _ _ hs ⟨R,D,I,G,L,h4⟩=>⟨R,D,I,G,λb hb=>⟨hs b (L b hb).1,(L b hb).2⟩,λb hb=>hs b (h4 b hb)⟩
theorem h_.nil(w:X)(V:aV):h_ e size cells good (Z none 0 0) [] w V:=⟨λ_=>False,λ_=>False,Own.nil,by simp,λ_ h=>h.elim,λ_ h=>h.elim⟩
def h_.sl{u:K}{q:List α}{w:X}{V:aV}(h:h_ e size cells good u q w V):∃A c,u=Z A q.length c∧q.length<=c∧c<=dG:=by obtain⟨R,D,I,_⟩:=h;obtain⟨A,c,G,_,L⟩:=I.reads;exact⟨A,c,G,L⟩
theorem h_.jL(hM:iz good){u:K}{q:List α}{w:X}{V:aV}(h:h_ e size cells good u q w V):∃A c,u=Z A q.length c∧In w V size A q.length (q.flatMap cells)∧(∀b∈q,good w V b)∧q.length<=c∧c<=dG:=by obtain⟨R,D,I,G,L,h4⟩:=h;obtain⟨A,c,rfl,h6,h7,h8⟩:=I.jL;exact⟨A,c,rfl,h6.mono λb hb=>(L b hb).1,λb hb=>hM _ _ _ _ (G b hb) h4,h7,h8⟩
variable{l:List Bl}{u:K}{q:List α}
theorem St.sl(h:St V w0 (.o (h_ e size cells good u q)::l) w):∃A c,u=Z A q.length c∧q.length<=c∧c<=dG:=by obtain⟨U,hU,_⟩:=h.own.see 0 rfl;exact h_.sl (show h_ e size cells good u q w U from hU)
def St.app(abl:Elem P t e size bytes z)(hG:lE good)(hM:iz good)(hl:∀a,(cells a).length=size)(m_:∀a,∀u∈cells a,u.oneCell'=true)
 (h:St V w0 (.o (h_ e size cells good u q)::l) w) (H:Grow w w1) {b:α} (hb:good w1 (New w w1) b) (fw:(q.length+1)*bytes<=140737488355328) (ty:dC) (c:Nat):∃v' O,(cn #[t,t] ty #[u,Z (some ⟨(w1:Nat),0,none⟩) 1 c]).run P (w1.alloc (.cells (cells b).toArray e))=.ok v' O∧St V w0 (.o (h_ e size cells good v' (q++[b]))::l) O:=by
 obtain⟨⟨h0,V1,⟨U1,U2,⟨R,D,I,G,L,h4⟩,hB,k1,k2,k3⟩,hV⟩,hj,ho,fS⟩:=h;have fk:Grow w1 (w1.alloc (.cells (cells b).toArray e)):=fb _ _;have fu:=H.trans fk;have rx:Reads (w1.alloc (.cells (cells b).toArray e)) ((w1:Nat)+1) size (some ⟨(w1:Nat),0,none⟩) 1 (cells b):=by have:=fF w1 (cells b).toArray e (0,0) (n:=1) (size:=size) (by simp[hl]) _ rfl;simpa using this
 have l6:∀x,R x->x<(w:Nat):=λx Y=>(hV x (k1 x (L x Y).1)).2;have a1w:∀x,D x->x<(w:Nat):=λx Y=>(hV x (k1 x (h4 x Y))).2;obtain⟨v',O,eR,hO,lR⟩:=jq abl _ ty u q.length (q.flatMap cells) (I.keep λx Y=>fu.block x (l6 x Y)) _ _ 1 c (cells b) rx (m_ b) fw;have s1:=H.size;have s2:(w1.alloc (.cells (cells b).toArray e)).heap.size=(w1:Nat)+1:=fp _ _;have s3:=lR.size;rw[s2] at s3;have hold:∀x,x<(w:Nat)->¬ R x->O.heap[x]?=w.heap[x]?:=λx Y hr=>(lR.block x ap hr).trans (fu.block x Y);refine⟨v',O,eR,⟨⟨λx Y=>h0 x ap,λx=>V1 x∨New w O x,⟨λx=>U1 x∨New w O x,U2,⟨iY R (w1.alloc (.cells (cells b).toArray e)) O,λx=>D x∨New w w1 x,?_,λa ha=>?_,λx Y=>?_,λx Y=>?_⟩,?_,λx Y=>Y.imp (k1 x) id,λx Y => .inl (k2 x Y),λx Y G=>?_⟩,λx Y=>?_⟩,?_,⟨h_.framed hG _ _,ho.2⟩,fS⟩⟩
 ·rw[bL,bJ,cE,bm,bd]
  exact hO
 ·rcases List.mem_append.1 ha with ha|ha
  ·exact hM _ D _ _ (hG w O D a (G a ha) λx Y=>hold x (a1w x Y) λhr=>(L x hr).2 Y) λ_ => .inl
  ·rw[List.mem_singleton.1 ha]
   exact hM _ (New w w1) _ _ (hG w1 O _ b hb λx Y=>(lR.block x (by have:=Y.2;omega) λhr=>by have:=l6 x hr;have:=Y.1;omega).trans (fk.block x Y.2)) λ_ => .inr
 ·rcases Y with Y|⟨rI,lw⟩
  ·exact⟨.inl (L x Y).1,λhd=>hd.elim (L x Y).2 λhd=>by have:=l6 x Y;have:=hd.1;omega⟩
  ·rw[s2] at rI
   exact⟨.inr ⟨by omega,lw⟩,λhd=>hd.elim (λhd=>by have:=a1w x hd;omega) λhd=>by have:=hd.2;omega⟩
 ·rcases Y with Y|Y
  ·exact .inl (h4 x Y)
  ·exact .inr ⟨Y.1,by have:=Y.2;omega⟩
 ·exact dN.framed _ (fP ho.2) w O U2 hB λx Y=>hold x (hV x (k2 x Y)).2 λhr=>k3 x (L x hr).1 Y
 ·rcases Y with Y|Y
  ·exact k3 x Y G
  ·have:=(hV x (k2 x G)).2;have:=Y.1;omega
 ·rcases Y with Y|Y
  ·exact⟨(hV x Y).1,by have:=(hV x Y).2;omega⟩
  ·exact⟨h0 x Y.1,Y.2⟩
 ·exact (hj.trans (dM.dK fu)).trans (lR.imp λx Y=>(hV x (k1 x (L x Y).1)).1)
def lb(abl:Elem P t e size bytes z)(hG:lE good)(hM:iz good)(hl:∀a,(cells a).length=size)(m_:∀a,∀u∈cells a,u.oneCell'=true){ops:Array dE}{rest:List dE}{o:dE}{a:dF}{abo:Exit->dF->X->Prop}(hw:bN o (yielded ops a.tmps)=true)(s x:Operand)
 (ho:o.op=.call { callee := .builtin .append,args:=#[s,x],argTypes:=#[t,t] }) (hs:a.eval s=u) (h:St V w0 (.o (h_ e size cells good u q)::l) w) (H:Grow w w1) {b:α} (hb:good w1 (New w w1) b) (fw:(q.length+1)*bytes<=140737488355328) (c:Nat)
 (Y:a.eval x=Z (some ⟨(w1:Nat),0,none⟩) 1 c)
 (N:∀v' O,St V w0 (.o (h_ e size cells good v' (q++[b]))::l) O->wpList P ops abo rest (a.put o.dst v') O):wpList P ops abo (o::rest) a (w1.alloc (.cells (cells b).toArray e)):=by obtain⟨v',O,eR,G⟩:=h.app abl hG hM hl m_ H hb fw o.type c;unfold wpList;rw[aA hw];refine .inl ?_;unfold Oper.wp execOp;simp only[ho,resolve,invoke,builtin,Sem.run_bind,Sem.run_pure,Result.andThen_ok,cV,bQ,cQ,hs,Y,eR];exact N v' O G
end
end Go.Hop
end
section
variable{g:Nat}{last:Int}{w:X}{V:aV}
section
namespace Go.Proofs.YtpeepcmdehhbgaaGreatDoor.abn
open Go.Shelf
def Nm:Go.Shelf.Ren:=⟨λ|20=>358|n=>n,λ|24=>66|22=>67|3=>3|25=>354|4=>4|0=>0|n=>n,λ|n=>n⟩
def a3Q:Go.Proofs.SlLaysF0.n20 W Nm:={
 mixed:=by kernel_rfl
 f20:=⟨Tryz.f358.name,by decide,Tryz.func358.trans (congrArg some aw)⟩
 t0:=Tryz.underlying0
 a0:=Tryz.isAgg0
 z0:=Tryz.sizeOf0
 v0:=Tryz.zeroValue0
 t3:=dp
 a3:=Tryz.isAgg3
 z3:=Tryz.sizeOf3
 v3:=Tryz.zeroValue3
 t4:=Tryz.underlying4
 a4:=Tryz.isAgg4
 z4:=Tryz.sizeOf4
 v4:=Tryz.zeroValue4
 t22:=Tryz.underlying67
 a22:=Tryz.isAgg67
 z22:=Tryz.sizeOf67
 v22:=Tryz.zeroValue67
 t25:=Tryz.underlying354
 a25:=Tryz.isAgg354
 z25:=Tryz.sizeOf354
 v25:=Tryz.zeroValue354 }
end Go.Proofs.YtpeepcmdehhbgaaGreatDoor.abn
namespace Go.Proofs.YtpeepcmdehhbgaaGreatDoor.abn
open Go.RowKit Go.Hop Go.Shelf
theorem Kt(w:X)(V:aV)(A:aU)(n c:Nat)(l:List Lb)(h:In w V 2 A n (gF l))(hn:n<=1048576):dz W 265 #[Z A n c] w λe O=>∃v,e=b5 v∧Own O (New w O) 66 2 v n (gF l)∧Grow w O:=by
 have kS:=λ(O:X)=>Lib.run_eql_slice_nil (P:=W) O 67 66 A n c 0 0 Tryz.underlying67;cases A with
 | none=>
   have y_:n=0:=by
    rcases b_ n with h0|h0
    ·exact h0
    ·obtain⟨_,e,_⟩:=h.2 h0;cases e
   subst y_;obtain rfl:l=[]:=bu (LIn.len h);go_in;go_wp2;go_ret;exact⟨_,rfl,Own.nil,Grow.refl _⟩
 | some ad=>
   go_in;go_wp2_with (at_builtin;refine stay ?_);refine dI ?_;refine fO (V:=λb=>b=(w:Nat)) MR _ rfl (.tmp 5) (.tmp 6) rfl (Z (some ⟨(w:Nat),0,none⟩) 0 0) 0 [] rfl (lC w _ _) (w:Nat) (some ad) n c (gF l) rfl (Reads.alloc (In.reads h) (bh _) _) (wZ l) ap ?_;intro v1 w1 kv wo;simp only[cJ,ch] at kv;obtain⟨sw,eD⟩:=ny kv wo;go_wp2;go_ret;exact⟨v1,rfl,sw,eD⟩
def Dj(w:X)(A:aU)(n c:Nat)(hn:n<=c):dz W 148 #[Z A n c] w λe O=>e=b5 (Z A n n)∧w=O:=by go_in;go_wp2;go_ret;exact⟨rfl,rfl⟩
def Nn(x y:Lb)(abq:X):dz W 267 #[aZ #[aX x.1,aX x.2],aZ #[aX y.1,aX y.2]] abq λe O=>e=b5 (J (BA x.1 y.1))∧∃q os',O=Sort.grow (abq.drewN q) os':=by have hcon:=λW'=>Dc W' x.1 y.1;generalize BA x.1 y.1=r at hcon ⊢;go_in;go_wp2_with (go_at_call 132;refine (hcon _).mono ?_;rintro e O ⟨rfl,rfl⟩);go_ret;exact⟨rfl,0,_,by rw[Sort.alloc_eq_grow,Sort.alloc_eq_grow,Sort.grow_grow];rfl⟩
def BH(x y:Lb):Go.Proofs.ltOf (λx y:Lb=>BA x.1 y.1) x y=slt x.1 y.1:=by unfold Go.Proofs.ltOf BA;cases I:slt x.1 y.1<;>cases G:slt y.1 x.1<;>simp[I,G]
def a3R:Sort.SWO (Go.Proofs.ltOf λx y:Lb=>BA x.1 y.1) where
 irrefl x:=by rw[BH];exact jF _
 trans x y z h k:=by rw[BH] at *;exact rU h k
 ntrans x y z h k:=by rw[BH] at *;exact IL h k
def xo(l:List Lb)(j:Nat)(hj:j<l.length*2):(gF l)[j]?=some (Sort.flatK mc 2 l.toArray)[j]!:=by
 have h:=flat_get mc 2 oc l (j / 2) (j % 2) ap (Nat.mod_lt _ ap);rw[show j / 2*2+j % 2=j by omega] at h;unfold gF;rw[h,Sort.get_flatK mc 2 l.toArray j (by simpa using hj)];have G:j / 2<l.length:=by omega
 have L:l.toArray[j / 2]! = l[j / 2]:=by simp[G]
 rw[L];have h4:j % 2<(mc l[j / 2]).length:=by rw[oc];exact Nat.mod_lt _ ap
 rw[List.getElem?_eq_getElem h4];simp[h4]
structure kF(q l:List Lb):Prop where
 perm:q.Perm l
 pB:q.Pairwise λa b=>slt b.1 a.1=false
def Rr(w:X)(g c:Nat)(l:List Lb)(cur:aP)(H:w.heap[g]?=some (.cells cur 66 (0,0)))(a62:cur.toList.take (l.length*2)=gF l)(hl:l.length<4611686018427387904):dz W 358 #[Z (some (g,0)) l.length c,(),J l.length,.func (.func 267) #[] #[]] w λe O=>e=b5 (a_ #[])∧∃q:List Lb,kF q l∧In O (λb=>b=g) 2 (some (g,0)) l.length (gF q)∧dM (λb=>b=g) w O:=by
 have z8:g<(w:Nat):=(Array.getElem?_eq_some_iff.1 H).1;have hH:Sort.HoldsK mc 2 w g 0 l.toArray:=λj hj=>by
  rw[Sort.size_flatK] at hj;have lR:j<l.length*2:=by simpa using hj
  have E:=xo l j lR;rw[<-a62,List.getElem?_take_of_lt lR,Array.getElem?_toList] at E;refine⟨?_,?_⟩
  ·unfold World.cell?
   simp only[H,cJ];exact E
  ·unfold World.frozen?
   simp only[H];simp
 have eg:∀args w,(callFunc 267 args).run W w=.ok (.enter 267 args) w:=λargs w=>by go_simp
 have hcon:=Go.Proofs.AnyQ.insertionSortCmpFunc a3Q 2 Tryz.isAgg66 Tryz.sizeOf66 mc oc (λx v hv=>by simp only[mc,cI,cF,or_false] at hv;rcases hv with rfl|rfl<;>rfl) (λx y:Lb=>BA x.1 y.1) 267 #[] g 0 c 0 l.length l.toArray w eg (λm os dk _ x y=>Nn x y _) hH z8 (bo _) (by simp) (by simpa using hl);change dz W 358 _ _ _ at hcon;rw[cy] at hcon;refine hcon.mono ?_;rintro e O ⟨he,n,os,rfl⟩;have hh:=Sort.insertionSort_holds a3R l.toArray 0 l.length (bo _) (by simp);generalize Sort.insertionSort (Go.Proofs.ltOf λx y:Lb=>BA x.1 y.1) l.toArray 0 l.length=d' at hh ⊢;obtain⟨q,rfl⟩:∃q:List Lb,d'=q.toArray:=⟨d'.toList,by simp⟩;have hp:=hh.1;have hs:=hh.2;have wu:q.length=l.length:=by have:=hp.1;simpa using this
 have hH':=Go.Proofs.holdsK_sortWorldK_c mc 2 w g 0 l.toArray q.toArray n os hH z8 hp.1;have iZ:=Go.Proofs.size_sortWorldK_c mc 2 w g 0 n q.toArray os;refine⟨he,q,⟨?_,List.pairwise_iff_getElem.2 λi j hi hj wJ=>?_⟩,⟨by rw[oR,wu],λhn=>⟨_,rfl,rfl,bw z8 iZ,λj u hu=>?_⟩⟩,⟨rfl,rfl,rfl,iZ,λb hb Y2=>?_⟩⟩
 ·have:=hp.2.2
  simp only[List.extract_toArray,List.extract_eq_take_drop,List.drop_zero,Nat.sub_zero] at this;rwa [bH ap,bH ap] at this
 ·have:=hs i j (bo _) wJ ap
  rw[BH] at this;simpa [hi,hj] using this
 ·have hj:j<q.length*2:=by
   have:=(List.getElem?_eq_some_iff.1 hu).1;rwa [oR] at this
  have I:=(hH' j (by simpa [Sort.size_flatK] using hj)).1
  rw[Addr.add_lit,<-hu,xo q j hj]
  exact I
 ·have vn:b<(w.heap.modify g (Sort.onCells (Sort.putCells id 0 (Sort.flatK mc 2 q.toArray)))).size:=by simpa using hb
  show ((w.heap.modify g (Sort.onCells (Sort.putCells id 0 (Sort.flatK mc 2 q.toArray))))++os)[b]?=w.heap[b]?;rw[Array.getElem?_append_left vn,Array.getElem?_modify,aB (λe=>Y2 e.symm)]
def Np(w:X)(A:aU)(c:Nat)(f:K):dz W 358 #[Z A 0 c,(),(),f] w λe O=>e=b5 (a_ #[])∧w=O:=by
 go_in;go_wp2_with fail;go_loop [8] (λi=>i=J 1) (λ_=>0);case atStart=>rfl
 case round=>
  obtain rfl:=hrel;go_wp2;go_end0;exact⟨rfl,rfl⟩
def G5(w:X)(A:aU)(n c:Nat)(l:List Lb)(hn:n<=19)(V:aV)(hO:Own w V 66 2 (Z A n c) n (gF l)):dz W 266 #[Z A n c,.func (.func 267) #[] #[]] w λe O=>e=b5 (a_ #[])∧∃q:List Lb,kF q l∧In O V 2 A n (gF q)∧dM V w O:=by
 have hl:l.length=n:=by have:=hO.1;rw[oR] at this;omega
 have Y3:dz W 358 #[Z A n c,(),J n,.func (.func 267) #[] #[]] w λe O=>e=b5 (a_ #[])∧∃q:List Lb,kF q l∧In O V 2 A n (gF q)∧dM V w O:=by
  rcases hO.2 with ⟨I,h0⟩|⟨g,cap,cur,I,hV,H,iS,iO,iZ,j9⟩
  ·subst h0
   obtain rfl:l=[]:=bu hl;refine (Np w A c _).mono ?_;rintro e O ⟨he,rfl⟩;exact⟨he,[],⟨List.Perm.refl _,List.Pairwise.nil⟩,In.nil,dM.dK (Grow.refl _)⟩
  ·injection I with I _ L
   subst I L;rw[<-hl] at j9;have:=Rr w g c l cur H j9 ap;rw[hl] at this;refine this.mono ?_;rintro e O ⟨he,q,hq,hI,hj⟩;exact⟨he,q,hq,hI.mono λb hb=>by rw[hb];exact hV,hj.imp λb hb=>by rw[hb];exact hV⟩
 have kY:dz W 325 #[Z A n c,J n,.func (.func 267) #[] #[]] w λe O=>e=b5 (a_ #[])∧∃q:List Lb,kF q l∧In O V 2 A n (gF q)∧dM V w O:=by
  have h20:decide ((20:Int)<=(n:Int))=false:=aD ap;have h20':decide ((20:Int)<(n:Int))=false:=aD ap;clear hO;go_in;go_wp2_with fail;go_loop [7,8] (λa b=>a=J 0∧b=J 20) (λ_ _=>0);case atStart=>exact⟨rfl,rfl⟩
  case round=>
   obtain⟨rfl,rfl⟩:=hrel;go_wp2_with fail;refine Y3.mono ?_;rintro e w2 ⟨rfl,abj⟩;clear Y3;have HH:=Q abj;clear abj;go_wp2_with fail;go_loop [6] (λa=>a=J 20) (λ_=>0);case atStart=>rfl
   case round=>
    obtain rfl:=hrel;go_wp2;go_end0;exact⟨rfl,HH.out⟩
 clear Y3 hO;go_in;go_wp2_with fail;refine kY.mono ?_;rintro e w2 ⟨rfl,abj⟩;clear kY;have HH:=Q abj;clear abj;go_wp2;go_end0;exact⟨rfl,HH.out⟩
def xp(w:X)(V:aV)(A:aU)(n c:Nat)(l:List Lb)(h:In w V 2 A n (gF l))(hn:n<=19):dz W 204 #[Z A n c] w λe O=>∃A' q,e=b5 (Z A' n n)∧kF q l∧In O (New w O) 2 A' n (gF q)∧Grow w O:=by go_in;go_wp2_with fail;refine (Kt w V A n c l h ap).mono ?_;rintro e w1 ⟨v,rfl,hO,eD⟩;obtain⟨A1,c1,rfl,_,iS,_⟩:=hO.jL;have kY:=G5 w1 A1 n c1 l hn (New w w1) hO;clear hO;go_wp2_with fail;refine kY.mono ?_;rintro e w2 ⟨rfl,q,hq,hI,hj⟩;clear kY;go_wp2_with (go_at_call 148;refine (Dj _ _ _ _ iS).mono ?_;rintro e O ⟨rfl,rfl⟩);go_ret;have hs:=eD.size;have z6:=hj.size;exact⟨A1,q,rfl,hq,hI.mono λb hb=>⟨hb.1,by have:=hb.2;omega⟩,Below.trans eD (hj.below (B:=(w:Nat)) (λb hb=>hb.1) hs)⟩
end Go.Proofs.YtpeepcmdehhbgaaGreatDoor.abn
end
namespace Go.Proofs.YtpeepcmdehhbgaaGreatDoor.abo
open RowKit Hop
abbrev Ab:=Int×List Dl
def eh(g:Nat)(l:List Ab)(last:Int):dW:=λw V=>
 V g∧∃(v:K)(q:List iE)(R D:aV),q.map iE.abs=l∧q.length<=16∧eJ w g 266 #[v,J last]∧Row w R 196 2 v q.length (q.flatMap iE.cells)∧(∀b∈q,iQ w D b)∧(∀b,R b->V b∧b≠g∧¬ D b)∧(∀b,D b->V b∧b≠g)
theorem iQ.keep{w O:X}{V:aV}{b:iE}(h:iQ w V b)(N:∀b,V b->b<(w:Nat)->O.heap[b]?=w.heap[b]?):iQ O V b:=⟨In.keep h.ds N,h.le,h.max,h.small⟩
def eh.framed(g:Nat)(l:List Ab)(last:Int):eu (eh g l last):=λw O V h N=>by obtain⟨I,v,q,R,D,G,L,h4,h5,h6,h7,h8⟩:=h;exact⟨I,v,q,R,D,G,L,(N g I).trans h4,h5.keep λb hb _=>N b (h7 b hb).1,λb hb=>(h6 b hb).keep λx Y _=>N x (h8 x Y).1,h7,h8⟩
def eh.wide{l:List Ab}{V':aV}(h:eh g l last w V)(hV:∀b,V b->V' b):eh g l last w V':=by obtain⟨I,v,q,R,D,G,L,h4,h5,h6,h7,h8⟩:=h;exact⟨hV g I,v,q,R,D,G,L,h4,h5,h6,λb hb=>⟨hV b (h7 b hb).1,(h7 b hb).2⟩,λb hb=>⟨hV b (h8 b hb).1,(h8 b hb).2⟩⟩
def eh.VQ{l:List Ab}(h:eh g l last w V):∃A c q,Hid (q.map iE.abs=l)∧l.length<=16∧eJ w g 266 #[Z A l.length c,J last]∧lW w V V A l.length q∧l.length<=c∧c<=dG:=by obtain⟨I,v,q,R,D,rfl,L,h4,h5,h6,h7,h8⟩:=h;obtain⟨A,c,rfl,hI,hn,hm⟩:=h5.jL;have e:(q.map iE.abs).length=q.length:=bj ..;rw[e];exact⟨A,c,q,Q rfl,L,h4,⟨hI.mono λb hb=>(h7 b hb).1,λb hb=>(h6 b hb).mono λx Y=>(h8 x Y).1⟩,hn,hm⟩
def oS(w:X):dz W 257 #[] w λe O=>e=b5 ((((w:Nat),0):K))∧eh (w:Nat) [] 0 O (New w O)∧Grow w O:=by go_in;go_wp2;go_ret;exact⟨rfl,⟨⟨bh _,by simp⟩,_,[],λ_=>False,λ_=>False,rfl,by simp,eJ.made w _ _,Row.nil,by simp,λ_ h=>h.elim,λ_ h=>h.elim⟩,(Below.refl (w:Nat) w).alloc (bh _) _⟩
def Rs(w:X)(g:Nat)(l:List Ab)(last:Int)(V:aV)(hQ:eh g l last w V):dz W 335 #[g] w λe O=>e=b5 (J l.length)∧w=O:=by obtain⟨A,c,q,HQ,L,hB,hI,hn,hm⟩:=hQ.VQ;have c0:=hB.cell 0;go_in;go_wp2;go_ret;exact⟨rfl,rfl⟩
def G7(l:List Ab)(u:K)(w:X):Prop:=∃A n c q,u=Z A n c∧lW w (λ_=>True) (λ_=>True) A n q∧q.map iE.abs=l∧n<=c
theorem G7.grow{l:List Ab}{u:K}{w O:X}(h:G7 l u w)(H:Grow w O):G7 l u O:=by obtain⟨A,n,c,q,e,I,G⟩:=h;exact⟨A,n,c,q,e,I.grow H,G⟩
def vU(w:X)(g:Nat)(l:List Ab)(last:Int)(V:aV)(hQ:eh g l last w V):dz W 109 #[g] w λe O=>∃A' q',e=b5 (Z A' l.length l.length)∧lW O (New w O) (New w O) A' l.length q'∧q'.map iE.abs=l∧Grow w O:=by obtain⟨A,c,q,HQ,L,hB,hI,hn,hm⟩:=hQ.VQ;have c0:=hB.cell 0;go_in;go_wp2_with (go_at_call 172;refine (D8 _ V V A _ c q hI ap hn).mono ?_;rintro e w1 ⟨A1,q1,rfl,Ma,K0,eD⟩);go_ret;exact⟨A1,q1,rfl,Ma,K0.trans HQ.out,eD⟩
theorem G8(w:X)(g:Nat)(l:List Ab)(last:Int)(V:aV)(hQ:eh g l last w V):dz W 271 #[g] w λe O=>∃A' q',e=b5 (Z A' (min l.length 4) (min l.length 4))∧lW O (New w O) (New w O) A' (min l.length 4) q'∧q'.map iE.abs=l.take 4∧Grow w O:=by
 obtain⟨A,c,q,HQ,L,hB,hI,hn,hm⟩:=hQ.VQ;have e4:(q.take (min l.length 4)).map iE.abs=l.take 4:=by
  rw[List.map_take,HQ.out];rcases Nat.lt_or_ge l.length 4 with h|h
  ·rw[bH (i:=4) ap,bH ap]
  ·rw[show min l.length 4=4 by omega]
 obtain⟨M,HM⟩:=az (min l.length 4:Nat);rw[<-HM.out] at e4 ⊢;have HT:=Q e4;clear e4;have hM:M<=l.length:=by rw[HM.out];omega
 have o9:M<=c:=by omega
 have e4:(if (4:Int)<(l.length:Int) then (4:Int) else (l.length:Int))=(M:Int):=by have:=HM.out;split<;>omega
 have e5:min (l.length:Int) 4=(M:Int):=by have:=HM.out;omega
 go_in;go_wp2_with fail;have c0:=hB.cell 0;go_still_tail 11,(by kernel_rfl);change wpList _ _ _ _ _ w.drew;generalize wv:w.drew=w1;have H:Grow w w1:=wv▸(Grow.refl w).drew;clear c0 wv;go_wp2_with (go_at_call 172;refine (D8 _ V V A M c (q.take M) ((hI.grow H).take hM) ap ap).mono ?_;rintro e w2 ⟨A1,q1,rfl,Ma,K0,eD⟩);go_ret;exact⟨A1,q1,rfl,Ma.mono (λb hb=>⟨bB H.size hb.1,hb.2⟩) (λb hb=>⟨bB H.size hb.1,hb.2⟩),K0.trans HT.out,H.trans eD⟩
def Nq(w:X)(g:Nat)(l:List Ab)(last seq:Int)(A:aU)(m c:Nat)(abl:Int)
 (h:(seq<1∨seq<=last∨m=0∨8<m)∧abl=1∨1<=seq∧last<seq∧0<m∧m<=8∧l.length=16∧abl=24):ii W 368 #[g,aZ #[J seq,Z A m c]] (λe=>e=b5 (J abl)) (eh g l last) (eh g l last) w:=by
 intro V hQ hV;have Mz:=hQ;obtain⟨I,v,q,R,D,ig,L,hB,kN,h6,h7,h8⟩:=hQ;obtain⟨A0,c0,rfl,hI,iS,su⟩:=kN.jL;have fu:Grow w (w.alloc (.cells #[J seq,Z A m c] 196)):=(Below.refl (w:Nat) w).alloc (bh _) _;have rz:=eJ.made w 196 #[J seq,Z A m c];have hd:decide (seq<1)=true∧abl=1∨decide (seq<1)=false∧(decide (seq<=last)=true∧abl=1∨decide (seq<=last)=false∧(((m:Int) == 0)=true∧abl=1∨((m:Int) == 0)=false∧(decide ((8:Int)<(m:Int))=true∧abl=1∨decide ((8:Int)<(m:Int))=false∧¬ q.length<16∧abl=24))):=by rw[<-ig,bj] at h;simp only[decide_eq_true_eq,decide_eq_false_iff_not,beq_iff_eq,beq_eq_false_iff_ne];omega
 clear h ig I;obtain⟨x,HX⟩:=az ((w:Nat):Nat);obtain⟨wa,HA⟩:=az (w.alloc (.cells #[J seq,Z A m c] 196):X);rw[<-HA.out,<-HX.out] at rz;rw[<-HA.out] at fu;have tV:=hB.grow fu;go_in;go_wp2_with fail;rw[<-HA.out,<-HX.out];have c0:=λw1(H:Grow _ w1)=>(rz.grow H).cell 0;have c1:=λw1(H:Grow _ w1)=>(tV.grow H).cell 1;have c2:=λw1(H:Grow _ w1)=>(rz.grow H).cell 1;rcases hd with ⟨d1,rfl⟩|⟨d1,⟨d2,rfl⟩|⟨d2,⟨d3,rfl⟩|⟨d3,⟨d4,rfl⟩|⟨d4,d5,rfl⟩⟩⟩⟩ <;>
 ·refine fh ?_
  intro w1 H;clear c0 c1 c2;have c00:=(tV.grow H).cell 0;go_wp2;go_ret;exact⟨rfl,eh.wide (eh.framed _ _ _ w w1 V Mz λb hb=>(fu.trans H).block b (hV b hb)) (λ_ => .inl),dM.dK (fu.trans H)⟩
end Go.Proofs.YtpeepcmdehhbgaaGreatDoor.abo
end
section
variable{l:aT}
namespace Go.Proofs.YtpeepcmdehhbgaaGreatDoor.V
open RowKit Hop
theorem IR.just{w O:X}{V D U:aV}{A:aU}{n:Nat}{q:List Bx}(h:IR w V D A n q)(hj:dM U w O)(hV:∀b,V b->¬ U b)(hD:∀b,D b->¬ U b):IR O V D A n q:=⟨h.row.just hj hV,λb hb=>(h.all b hb).just hj hD⟩
def eC(x d:Nat)(n:Int)(l:aT)(k:Nat):dW:=λw V=>
 V x∧eJ w x 278 #[d,J n]∧g9 120 d l k w (λb=>V b∧b≠x)
theorem eC.framed(x d:Nat)(n:Int)(l:aT)(k:Nat):eu (eC x d n l k):=λw O V h N=>by obtain⟨I,G,L⟩:=h;exact⟨I,(N x I).trans G,g9.framed _ d l k w O _ L λb hb=>N b hb.1⟩
theorem eC.wide{x d:Nat}{n:Int}{l:aT}{k:Nat}{w:X}{V V':aV}(h:eC x d n l k w V)(hV:∀b,V b->V' b):eC x d n l k w V':=⟨hV x h.1,h.2.1,h.2.2.wide λb hb=>⟨hV b hb.1,hb.2⟩⟩
def eC.turn{f:FuncId}{args:aP}{C:Ending->Prop}{x d:Nat}{n:Int}{l':aT}{k k':Nat}{w:X}(h:ii W f args C (g9 120 d l k) (g9 120 d l' k') w):ii W f args C (eC x d n l k) (eC x d n l' k') w:=by
 intro V ⟨I,G,L⟩ hV;refine (h _ L λb hb=>hV b hb.1).mono λe O ⟨he,hd,hj⟩=>⟨he,⟨.inl I,hj.blk G λh=>h.2 rfl,hd.wide λb hb=>?_⟩,hj.imp λb hb=>hb.1⟩;have:=hV x I;rcases hb with hb|hb
 ·exact⟨.inl hb.1,hb.2⟩
 ·exact⟨.inr hb,by have:=hb.1;omega⟩
def um(w:X)(x d:Nat)(n:Int)(l:aT)(k:Nat):ii W 242 #[x] (λe=>e=b5 (a_ #[])) (eC x d n l k) (eC x d n l l.length) w:=by intro V hL hV;have c0:=hL.2.1.cell 0;have ht:=eC.turn (x:=x) (n:=n) (MW w d l k) V hL hV;go_in;go_wp2_with fail;refine ht.mono ?_;rintro e w1 ⟨rfl,hL1,hj⟩;go_wp2;go_end0;exact⟨rfl,hL1,hj⟩
def i6(l b:aT):Int:=if b.length<=65536 then Bv l (frame b) else 3
def zg(l b:aT):List UInt8:=if b.length<=65536 then R7 l (frame b) else l
def Ku{b:aT}:Bv l b=0↔fits l b=true:=by
 unfold Bv;split;·simp_all
 ·simp_all
def va(w:X)(x d:Nat)(n:Int)(l:aT)(k:Nat)(A:aU)(m c:Nat)(b:aT)(hb:Bytes w (w:Nat) A m b)(hn:0<=n∧n<=1099511627776):ii W 241 #[x,Z A m c] (λe=>e=b5 (J (i6 l b))) (eC x d n l k) (eC x d (if i6 l b=0 then n+1 else n) (zg l b) k) w:=by
 intro V hL hV;have uV:=hb.len;by_cases hm:m<=65536
 ·have YR:b.length<=65536:=by omega
  unfold i6 zg;rw[aA YR,aA YR];cases hf:fits l (frame b) with
  | true=>
    have Fx:Bv l (frame b)=0:=Ku.2 hf;rw[Fx,aA rfl];have hB:=hL.2.1;go_in;go_wp2_with fail;refine (uj w A m c b hb hm).mono ?_;rintro e w1 ⟨v1,rfl,kv,eD⟩;obtain⟨A1,c1,rfl,lT,oK,ry⟩:=kv.reads;have c0:=(hB.grow eD).cell 0;have hL1:=eC.framed x d n l k w w1 V hL λb hb=>eD.block b (hV b hb);have ht:=eC.turn (x:=x) (n:=n) (xc w1 d l k A1 (frame b).length c1 (frame b) lT) V hL1 (λb hb=>bw (hV b hb) eD.size);rw[Fx] at ht;clear Fx;go_wp2_with fail;refine ht.mono ?_;rintro e w2 ⟨rfl,YX,k7⟩;have c1:=YX.2.1.cell 1;have f1:=YX.2.1.frozen 1;have wv:IntKind.i64.wrap (n+1)=n+1:=by rw[IntKind.wrap_i64];omega
    go_wp2;go_ret;refine⟨rfl,⟨.inl hL.1,YX.2.1.put 1 _,?_⟩,((dM.dK eD).trans k7).put hL.1 1 _⟩;refine (g9.framed _ d _ _ w2 _ _ YX.2.2 λb hb=>(kD w2 x 1 _).block b ?_ hb.2).wide λb hb=>⟨?_,hb.2⟩
    ·have:=k7.size
     rcases hb.1 with h|h
     ·have:=hV b h;have:=eD.size;omega
     ·exact h.2
    ·rcases hb.1 with h|h
     ·exact .inl h
     ·exact .inr ⟨bB eD.size h.1,by rw[gg];exact h.2⟩
  | false=>
    have Fx:Bv l (frame b)=24:=by unfold Bv;rw[hf];rfl
    rw[Fx,aB am];have hB:=hL.2.1;go_in;go_wp2_with fail;refine (uj w A m c b hb hm).mono ?_;rintro e w1 ⟨v1,rfl,kv,eD⟩;obtain⟨A1,c1,rfl,lT,oK,ry⟩:=kv.reads;have c0:=(hB.grow eD).cell 0;have hL1:=eC.framed x d n l k w w1 V hL λb hb=>eD.block b (hV b hb);have ht:=eC.turn (x:=x) (n:=n) (xc w1 d l k A1 (frame b).length c1 (frame b) lT) V hL1 (λb hb=>bw (hV b hb) eD.size);rw[Fx] at ht;clear Fx;go_wp2_with fail;refine ht.mono ?_;rintro e w2 ⟨rfl,YX,k7⟩;go_wp2;go_ret;refine⟨rfl,YX.wide λb hb=>?_,(dM.dK eD).trans k7⟩;rcases hb with h|h
    ·exact .inl h
    ·exact .inr ⟨bB eD.size h.1,h.2⟩
 ·have YR:¬ b.length<=65536:=by omega
  unfold i6 zg;rw[aB YR,aB YR,aB ap];go_in;go_wp2_with fail;refine (xl w A m c ap).mono ?_;rintro e w1 ⟨rfl,rfl⟩;go_wp2;go_ret;exact⟨rfl,hL.wide λb hb => .inl hb,dM.dK (Grow.refl w)⟩
end Go.Proofs.YtpeepcmdehhbgaaGreatDoor.V
namespace Go.Proofs.YtpeepcmdehhbgaaGreatDoor
open RowKit Hop
def Dk:Go.Shelf.Ren:=⟨λ|53=>236|64=>192|63=>298|78=>254|79=>255|70=>341|71=>342|72=>343|73=>344|74=>345|75=>346|59=>347|76=>348|77=>349|88=>373|89=>313|90=>314|91=>374|92=>375|68=>295|96=>379|n=>n,λ|22=>72|23=>2|3=>3|51=>62|0=>0|67=>61|69=>42|4=>4|61=>340|60=>339|44=>344|5=>5|9=>9|75=>390|79=>393|83=>417|84=>418|n=>n,λ|n=>n⟩
def IU:Go.Proofs.SlLaysN.n53 W Dk:={
 mixed:=by kernel_rfl
 f53:=⟨Tryz.f236.name,by decide,Tryz.func236.trans (congrArg some aw)⟩
 f59:=⟨Tryz.f347.name,by decide,Tryz.func347.trans (congrArg some aw)⟩
 f63:=⟨Tryz.f298.name,by decide,Tryz.func298.trans (congrArg some aw)⟩
 f64:=Tryz.func192.trans (congrArg some aw)
 f68:=⟨Tryz.f295.name,by decide,Tryz.func295.trans (congrArg some aw)⟩
 f70:=⟨Tryz.f341.name,by decide,Tryz.func341.trans (congrArg some aw)⟩
 f71:=⟨Tryz.f342.name,by decide,Tryz.func342.trans (congrArg some aw)⟩
 f72:=⟨Tryz.f343.name,by decide,Tryz.func343.trans (congrArg some aw)⟩
 f73:=⟨Tryz.f344.name,by decide,Tryz.func344.trans (congrArg some aw)⟩
 f74:=⟨Tryz.f345.name,by decide,Tryz.func345.trans (congrArg some aw)⟩
 f75:=⟨Tryz.f346.name,by decide,Tryz.func346.trans (congrArg some aw)⟩
 f76:=⟨Tryz.f348.name,by decide,Tryz.func348.trans (congrArg some aw)⟩
 f77:=⟨Tryz.f349.name,by decide,Tryz.func349.trans (congrArg some aw)⟩
 f78:=Tryz.func254.trans (congrArg some aw)
 f79:=Tryz.func255.trans (congrArg some aw)
 f88:=⟨Tryz.f373.name,by decide,Tryz.func373.trans (congrArg some aw)⟩
 f89:=Tryz.func313.trans (congrArg some aw)
 f90:=Tryz.func314.trans (congrArg some aw)
 f91:=⟨Tryz.f374.name,by decide,Tryz.func374.trans (congrArg some aw)⟩
 f92:=⟨Tryz.f375.name,by decide,Tryz.func375.trans (congrArg some aw)⟩
 f96:=⟨Tryz.f379.name,by decide,Tryz.func379.trans (congrArg some aw)⟩
 t0:=Tryz.underlying0
 a0:=Tryz.isAgg0
 z0:=Tryz.sizeOf0
 v0:=Tryz.zeroValue0
 t3:=dp
 a3:=Tryz.isAgg3
 z3:=Tryz.sizeOf3
 v3:=Tryz.zeroValue3
 t4:=Tryz.underlying4
 a4:=Tryz.isAgg4
 z4:=Tryz.sizeOf4
 v4:=Tryz.zeroValue4
 t5:=dm
 a5:=Tryz.isAgg5
 z5:=Tryz.sizeOf5
 v5:=Tryz.zeroValue5
 t9:=cW
 a9:=Tryz.isAgg9
 z9:=Tryz.sizeOf9
 v9:=Tryz.zeroValue9
 t22:=Tryz.underlying72
 a22:=Tryz.isAgg72
 z22:=Tryz.sizeOf72
 v22:=Tryz.zeroValue72
 t23:=Tryz.underlying2
 a23:=Tryz.isAgg2
 z23:=Tryz.sizeOf2
 v23:=Tryz.zeroValue2
 t44:=Tryz.underlying344
 a44:=Tryz.isAgg344
 z44:=Tryz.sizeOf344
 v44:=Tryz.zeroValue344
 t51:=Tryz.underlying62
 a51:=Tryz.isAgg62
 z51:=Tryz.sizeOf62
 v51:=Tryz.zeroValue62
 t60:=Tryz.underlying339
 a60:=Tryz.isAgg339
 z60:=Tryz.sizeOf339
 v60:=Tryz.zeroValue339
 t61:=Tryz.underlying340
 a61:=Tryz.isAgg340
 z61:=Tryz.sizeOf340
 v61:=Tryz.zeroValue340
 t67:=Tryz.underlying61
 a67:=Tryz.isAgg61
 z67:=Tryz.sizeOf61
 v67:=Tryz.zeroValue61
 t69:=Tryz.underlying42
 a69:=Tryz.isAgg42
 z69:=Tryz.sizeOf42
 v69:=Tryz.zeroValue42
 t75:=Tryz.underlying390
 a75:=Tryz.isAgg390
 z75:=Tryz.sizeOf390
 v75:=Tryz.zeroValue390
 t79:=Tryz.underlying393
 a79:=Tryz.isAgg393
 z79:=Tryz.sizeOf393
 v79:=Tryz.zeroValue393
 t83:=Tryz.underlying417
 a83:=Tryz.isAgg417
 z83:=Tryz.sizeOf417
 v83:=Tryz.zeroValue417
 t84:=Tryz.underlying418
 a84:=Tryz.isAgg418
 z84:=Tryz.sizeOf418
 v84:=Tryz.zeroValue418 }
def lI(l:aN):List K:=l.map (Value.int .i64)
def oZ(l:aN):(lI l).length=l.length:=by simp[lI]
def Nr(l:aN):∀u∈lI l,u.oneCell'=true:=λu hu=>by obtain⟨x,_,rfl⟩:=List.mem_map.1 hu;rfl
def zT(l:aN){j:Nat}(hj:j<l.length):(lI l)[j]?=some (J l[j]):=by simp[lI,hj]
def a3S:Elem W 72 2 1 8 (J 0):=⟨Tryz.underlying72,info_parts aw,rfl,by decide,by decide⟩
def pB(l:aN):List Int:=l.mergeSort λx y=>decide (x<=y)
def xq(l:aN):(pB l).Perm l:=List.mergeSort_perm _ _
def o_(l:aN):(pB l).length=l.length:=(xq l).length_eq
def Kv(w:X)(V:aV)(v:K)(l:aN)(T:Own w V 2 1 v l.length (lI l))(hl:l.length<4611686018427387904):dz W 236 #[v] w λe O=>e=b5 (a_ #[])∧Own O V 2 1 v (pB l).length (lI (pB l))∧dM V w O:=by
 obtain⟨fj,⟨rfl,h0⟩|⟨g,cap,cur,rfl,hV,H,kM,iO,jQ,j9⟩⟩:=T
 ·have hn:l=[]:=bu h0
  subst hn;refine (Go.Proofs.AnyG.slices_Sort_int_none IU none 0 w).mono λe O ⟨I,G⟩=>⟨I,?_,?_⟩
  ·have:pB []=[]:=by simp[pB]
   rw[this];exact⟨rfl,.inl ⟨rfl,rfl⟩⟩
  ·rw[G]
   exact dM.dK (Grow.refl _)
 have z8:g<(w:Nat):=(Array.getElem?_eq_some_iff.1 H).1;have za:l.length<=cur.size:=by have:=congrArg List.length j9;rw[bn,oZ] at this;simp at this;omega
 have hH:Sort.Holds (Value.int .i64) w g 0 l.toArray:=λj hj=>by
  have lR:j<l.length:=by simpa using hj
  have E:=zT l lR;rw[<-j9,List.getElem?_take_of_lt ap,Array.getElem?_toList] at E;refine⟨?_,?_⟩
  ·unfold World.cell?
   simp only[H,cJ];rw[E];simp[lR]
  ·unfold World.frozen?
   simp only[H];simp
 refine (Go.Proofs.AnyG.slices_Sort_int IU g 0 cap l w hH z8 hl).mono ?_;rintro e O ⟨he,n,os,rfl⟩;obtain⟨s,HS⟩:=aE (pB l:aN);have sA:s.length=l.length:=by rw[HS];exact o_ l
 change e=_∧Own (Sort.grow (Sort.putRow (Value.int .i64) (Sort.ahead w n) g 0 (pB l).toArray) os) V _ 1 _ (pB l).length (lI (pB l))∧dM V w (Sort.grow (Sort.putRow (Value.int .i64) (Sort.ahead w n) g 0 (pB l).toArray) os);rw[<-HS];have Iu:(Sort.grow (Sort.putRow (Value.int .i64) (Sort.ahead w n) g 0 s.toArray) os).heap[g]?=some (.cells (Sort.putCells (Value.int .i64) 0 s.toArray cur) 2 (0,0)):=by show ((w.heap.modify g (Sort.onCells (Sort.putCells (Value.int .i64) 0 s.toArray)))++os)[g]?=_;rw[Array.getElem?_append_left (by simpa using z8),Array.getElem?_modify,aA rfl,H];rfl
 have Fb:(Sort.putCells (Value.int .i64) 0 s.toArray cur).size=cur.size:=by simp[Sort.putCells]
 have iZ:(w:Nat)<=(Sort.grow (Sort.putRow (Value.int .i64) (Sort.ahead w n) g 0 s.toArray) os).heap.size:=by show (w:Nat)<=((w.heap.modify g (Sort.onCells (Sort.putCells (Value.int .i64) 0 s.toArray)))++os).size;simp
 refine⟨he,⟨by rw[oZ];omega,.inr ⟨g,cap,_,by rw[sA],hV,Iu,by omega,iO,by rw[Fb,sA];exact jQ,?_⟩⟩,⟨rfl,rfl,rfl,iZ,λb hb Y2=>?_⟩⟩
 ·apply List.ext_getElem?
  intro j;by_cases hj:j<s.length
  ·rw[List.getElem?_take_of_lt ap,Array.getElem?_toList,zT s hj]
   have hjc:j<cur.size:=by omega
   simp[Sort.putCells,hjc,hj]
  ·rw[List.getElem?_eq_none (by rw[bn];omega),List.getElem?_eq_none (by rw[oZ];omega)]
 ·have vn:b<(w.heap.modify g (Sort.onCells (Sort.putCells (Value.int .i64) 0 s.toArray))).size:=by simpa using hb
  show ((w.heap.modify g (Sort.onCells (Sort.putCells (Value.int .i64) 0 s.toArray)))++os)[b]?=w.heap[b]?;rw[Array.getElem?_append_left vn,Array.getElem?_modify,aB (λe=>Y2 (by rw[<-e];exact hV))]
def Ns(w:X)(V:aV)(A:aU)(n c:Nat)(l:aN)(x:Int)(h:In w V 1 A n (lI l))(hn:n<=1048576):dz W 234 #[Z A n c,J x] w λe O=>∃z:Int,e=b5 (J z)∧(0<=z↔x∈l)∧w=O:=by
 have wu:l.length=n:=by have:=h.1;rw[oZ] at this;omega
 go_in;go_wp2_with fail;go_loopw [8] (λi wr=>∃k:Nat,k<=n∧i=J k∧(∀(j:Nat)(hj:j<l.length),j<k->l[j]≠x)∧w=wr) (λi _=>n-(intOf i).toNat);case atStart=>exact⟨0,by omega,rfl,λj hj h0=>absurd h0 ap,rfl⟩
 case round=>
  obtain⟨k,oL,rfl,kh,rfl⟩:=hrel;by_cases N:k<n
  ·have hd:decide ((k:Int)<(n:Int))=true:=aC ap
   obtain⟨ad,rfl,hVa,hba,E⟩:=h.2 ap;have o9:=E k _ (zT l (show k<l.length by omega));have HK:Hid (l[k]=x->x∈l):=Q λe=>e▸bF _;have HN:Hid (l[k]≠x->∀(j:Nat)(hj:j<l.length),j<k+1->l[j]≠x):=Q λh0 j hj Vb=>by
    rcases Nat.lt_or_ge j k with I|I
    ·exact kh j hj I
    ·have:j=k:=by omega
     subst this;exact h0
   generalize l[k]=y at o9 HK HN;clear kh E h;by_cases I:y=x
   ·have e1:decide (x=y)=true:=aC I.symm
    have e2:(x == y)=true:=by simpa using I.symm
    have Y:=Q (HK.out I);clear I HK HN;go_wp2;go_ret;exact⟨(k:Int),rfl,⟨λ_=>Y.out,λ_=>by omega⟩,rfl⟩
   ·have e1:decide (x=y)=false:=aD λe=>I e.symm
    have e2:(x == y)=false:=by simpa using λe=>I (Eq.symm e)
    have NO:=Q (HN.out I);clear I HK HN;go_wp2_with fail;go_roundw;case rel=>exact⟨k+1,by omega,by simp,NO.out,trivial⟩
    case measure=>simp only[intOf];omega
  ·obtain rfl:k=n:=by omega
   have hd:decide ((k:Int)<(k:Int))=false:=aD ap;go_wp2;go_ret;refine⟨-1,rfl,⟨λh=>absurd h ap,λh=>?_⟩,rfl⟩;obtain⟨j,hj,rfl⟩:=List.getElem_of_mem h;exact absurd rfl (kh j hj ap)
def zU(w:X)(V:aV)(A:aU)(n c:Nat)(l:aN)(x:Int)(h:In w V 1 A n (lI l))(hn:n<=1048576):dz W 176 #[Z A n c,J x] w λe O=>e=b5 (aY (decide (x∈l)))∧Grow w O:=by
 have hI:=Ns w V A n c l x h hn;obtain⟨r,HR⟩:=az (decide (x∈l):Bool);go_in;go_wp2_with fail;refine hI.mono ?_;rintro e w1 ⟨z,rfl,hz,rfl⟩;by_cases h0:0<=z
 ·have hd:decide ((0:Int)<=z)=true:=aC h0
  have hr:r=true:=by rw[HR.out];exact aC (hz.1 h0)
  subst hr;clear hz h0;go_wp2;go_ret;exact⟨by rw[<-HR.out];rfl,Grow.refl _⟩
 ·have hd:decide ((0:Int)<=z)=false:=aD h0
  have hr:r=false:=by rw[HR.out];exact aD λhm=>h0 (hz.2 hm)
  subst hr;clear hz h0;go_wp2;go_ret;exact⟨by rw[<-HR.out];rfl,Grow.refl _⟩
def Dm:Go.Shelf.Ren:=⟨λ|53=>190|64=>192|63=>245|78=>254|79=>255|70=>303|71=>304|72=>305|73=>306|74=>307|75=>308|59=>309|76=>310|77=>311|88=>350|89=>313|90=>314|91=>351|92=>352|68=>294|96=>376|n=>n,λ|22=>22|23=>3|3=>3|51=>62|0=>0|67=>61|69=>42|4=>4|61=>340|60=>339|44=>344|5=>5|9=>9|75=>390|79=>393|83=>417|84=>418|n=>n,λ|n=>n⟩
def sortInt:Go.Proofs.SlLaysN.n53 W Dm:={
 mixed:=by kernel_rfl
 f53:=⟨Tryz.f190.name,by decide,Tryz.func190.trans (congrArg some aw)⟩
 f59:=⟨Tryz.f309.name,by decide,Tryz.func309.trans (congrArg some aw)⟩
 f63:=⟨Tryz.f245.name,by decide,Tryz.func245.trans (congrArg some aw)⟩
 f64:=Tryz.func192.trans (congrArg some aw)
 f68:=⟨Tryz.f294.name,by decide,Tryz.func294.trans (congrArg some aw)⟩
 f70:=⟨Tryz.f303.name,by decide,Tryz.func303.trans (congrArg some aw)⟩
 f71:=⟨Tryz.f304.name,by decide,Tryz.func304.trans (congrArg some aw)⟩
 f72:=⟨Tryz.f305.name,by decide,Tryz.func305.trans (congrArg some aw)⟩
 f73:=⟨Tryz.f306.name,by decide,Tryz.func306.trans (congrArg some aw)⟩
 f74:=⟨Tryz.f307.name,by decide,Tryz.func307.trans (congrArg some aw)⟩
 f75:=⟨Tryz.f308.name,by decide,Tryz.func308.trans (congrArg some aw)⟩
 f76:=⟨Tryz.f310.name,by decide,Tryz.func310.trans (congrArg some aw)⟩
 f77:=⟨Tryz.f311.name,by decide,Tryz.func311.trans (congrArg some aw)⟩
 f78:=Tryz.func254.trans (congrArg some aw)
 f79:=Tryz.func255.trans (congrArg some aw)
 f88:=⟨Tryz.f350.name,by decide,Tryz.func350.trans (congrArg some aw)⟩
 f89:=Tryz.func313.trans (congrArg some aw)
 f90:=Tryz.func314.trans (congrArg some aw)
 f91:=⟨Tryz.f351.name,by decide,Tryz.func351.trans (congrArg some aw)⟩
 f92:=⟨Tryz.f352.name,by decide,Tryz.func352.trans (congrArg some aw)⟩
 f96:=⟨Tryz.f376.name,by decide,Tryz.func376.trans (congrArg some aw)⟩
 t0:=Tryz.underlying0
 a0:=Tryz.isAgg0
 z0:=Tryz.sizeOf0
 v0:=Tryz.zeroValue0
 t3:=dp
 a3:=Tryz.isAgg3
 z3:=Tryz.sizeOf3
 v3:=Tryz.zeroValue3
 t4:=Tryz.underlying4
 a4:=Tryz.isAgg4
 z4:=Tryz.sizeOf4
 v4:=Tryz.zeroValue4
 t5:=dm
 a5:=Tryz.isAgg5
 z5:=Tryz.sizeOf5
 v5:=Tryz.zeroValue5
 t9:=cW
 a9:=Tryz.isAgg9
 z9:=Tryz.sizeOf9
 v9:=Tryz.zeroValue9
 t22:=Tryz.underlying22
 a22:=Tryz.isAgg22
 z22:=Tryz.sizeOf22
 v22:=Tryz.zeroValue22
 t23:=dp
 a23:=Tryz.isAgg3
 z23:=Tryz.sizeOf3
 v23:=Tryz.zeroValue3
 t44:=Tryz.underlying344
 a44:=Tryz.isAgg344
 z44:=Tryz.sizeOf344
 v44:=Tryz.zeroValue344
 t51:=Tryz.underlying62
 a51:=Tryz.isAgg62
 z51:=Tryz.sizeOf62
 v51:=Tryz.zeroValue62
 t60:=Tryz.underlying339
 a60:=Tryz.isAgg339
 z60:=Tryz.sizeOf339
 v60:=Tryz.zeroValue339
 t61:=Tryz.underlying340
 a61:=Tryz.isAgg340
 z61:=Tryz.sizeOf340
 v61:=Tryz.zeroValue340
 t67:=Tryz.underlying61
 a67:=Tryz.isAgg61
 z67:=Tryz.sizeOf61
 v67:=Tryz.zeroValue61
 t69:=Tryz.underlying42
 a69:=Tryz.isAgg42
 z69:=Tryz.sizeOf42
 v69:=Tryz.zeroValue42
 t75:=Tryz.underlying390
 a75:=Tryz.isAgg390
 z75:=Tryz.sizeOf390
 v75:=Tryz.zeroValue390
 t79:=Tryz.underlying393
 a79:=Tryz.isAgg393
 z79:=Tryz.sizeOf393
 v79:=Tryz.zeroValue393
 t83:=Tryz.underlying417
 a83:=Tryz.isAgg417
 z83:=Tryz.sizeOf417
 v83:=Tryz.zeroValue417
 t84:=Tryz.underlying418
 a84:=Tryz.isAgg418
 z84:=Tryz.sizeOf418
 v84:=Tryz.zeroValue418 }
def Zt:Elem W 22 3 1 8 (J 0):=⟨Tryz.underlying22,info_parts aw,rfl,by decide,by decide⟩
def Kw(w:X)(V:aV)(v:K)(l:aN)(T:Own w V 3 1 v l.length (lI l))(hl:l.length<4611686018427387904):dz W 190 #[v] w λe O=>e=b5 (a_ #[])∧Own O V 3 1 v (pB l).length (lI (pB l))∧dM V w O:=by
 obtain⟨fj,⟨rfl,h0⟩|⟨g,cap,cur,rfl,hV,H,kM,iO,jQ,j9⟩⟩:=T
 ·have hn:l=[]:=bu h0
  subst hn;refine (Go.Proofs.AnyG.slices_Sort_int_none sortInt none 0 w).mono λe O ⟨I,G⟩=>⟨I,?_,?_⟩
  ·have:pB []=[]:=by simp[pB]
   rw[this];exact⟨rfl,.inl ⟨rfl,rfl⟩⟩
  ·rw[G]
   exact dM.dK (Grow.refl _)
 have z8:g<(w:Nat):=(Array.getElem?_eq_some_iff.1 H).1;have za:l.length<=cur.size:=by have:=congrArg List.length j9;rw[bn,oZ] at this;simp at this;omega
 have hH:Sort.Holds (Value.int .i64) w g 0 l.toArray:=λj hj=>by
  have lR:j<l.length:=by simpa using hj
  have E:=zT l lR;rw[<-j9,List.getElem?_take_of_lt ap,Array.getElem?_toList] at E;refine⟨?_,?_⟩
  ·unfold World.cell?
   simp only[H,cJ];rw[E];simp[lR]
  ·unfold World.frozen?
   simp only[H];simp
 refine (Go.Proofs.AnyG.slices_Sort_int sortInt g 0 cap l w hH z8 hl).mono ?_;rintro e O ⟨he,n,os,rfl⟩;obtain⟨s,HS⟩:=aE (pB l:aN);have sA:s.length=l.length:=by rw[HS];exact o_ l
 change e=_∧Own (Sort.grow (Sort.putRow (Value.int .i64) (Sort.ahead w n) g 0 (pB l).toArray) os) V _ 1 _ (pB l).length (lI (pB l))∧dM V w (Sort.grow (Sort.putRow (Value.int .i64) (Sort.ahead w n) g 0 (pB l).toArray) os);rw[<-HS];have Iu:(Sort.grow (Sort.putRow (Value.int .i64) (Sort.ahead w n) g 0 s.toArray) os).heap[g]?=some (.cells (Sort.putCells (Value.int .i64) 0 s.toArray cur) 3 (0,0)):=by show ((w.heap.modify g (Sort.onCells (Sort.putCells (Value.int .i64) 0 s.toArray)))++os)[g]?=_;rw[Array.getElem?_append_left (by simpa using z8),Array.getElem?_modify,aA rfl,H];rfl
 have Fb:(Sort.putCells (Value.int .i64) 0 s.toArray cur).size=cur.size:=by simp[Sort.putCells]
 have iZ:(w:Nat)<=(Sort.grow (Sort.putRow (Value.int .i64) (Sort.ahead w n) g 0 s.toArray) os).heap.size:=by show (w:Nat)<=((w.heap.modify g (Sort.onCells (Sort.putCells (Value.int .i64) 0 s.toArray)))++os).size;simp
 refine⟨he,⟨by rw[oZ];omega,.inr ⟨g,cap,_,by rw[sA],hV,Iu,by omega,iO,by rw[Fb,sA];exact jQ,?_⟩⟩,⟨rfl,rfl,rfl,iZ,λb hb Y2=>?_⟩⟩
 ·apply List.ext_getElem?
  intro j;by_cases hj:j<s.length
  ·rw[List.getElem?_take_of_lt ap,Array.getElem?_toList,zT s hj]
   have hjc:j<cur.size:=by omega
   simp[Sort.putCells,hjc,hj]
  ·rw[List.getElem?_eq_none (by rw[bn];omega),List.getElem?_eq_none (by rw[oZ];omega)]
 ·have vn:b<(w.heap.modify g (Sort.onCells (Sort.putCells (Value.int .i64) 0 s.toArray))).size:=by simpa using hb
  show ((w.heap.modify g (Sort.onCells (Sort.putCells (Value.int .i64) 0 s.toArray)))++os)[b]?=w.heap[b]?;rw[Array.getElem?_append_left vn,Array.getElem?_modify,aB (λe=>Y2 (by rw[<-e];exact hV))]
end Go.Proofs.YtpeepcmdehhbgaaGreatDoor
end
section
open Go.Hop (Bl)
variable{w w0 O:X}{t kt et ty:dC}{P:dD}{cs:aP}{ops:Array dE}{abo:Go.Exit->dF->X->Prop}{o:dE}{a:dF}{rest:List dE}{V:aV}{l:List Bl}{g i b n bytes e B c r:Nat}{z v u:K}{S:X->Prop}{Bs ks bs:aQ}{abn:Array Bool}{a':dF}
namespace Go.Hop
open RowKit
section
variable{κ:Type}[DecidableEq κ]{ke:κ->K}{q q':List (κ×K)}
def St.IV(abk:oo P kt ke)(ht:P.underlying t=some (.map kt et))(hz:(zeroValue et).run P w=.ok z w)(h:St V w0 l w)(i:Nat)(hi:l[i]?=some (.o (eI ke b q)))(k:κ)(c:Bool):(Instr.lookup t (.map (some b)) (ke k) c).run P w=.ok (if c then a_ #[(uk q k).getD z,aY (uk q k).isSome] else (uk q k).getD z) w:=by obtain⟨U,hU,_⟩:=h.own.see i (iD hi);exact eI.look abk ht hz (show eI ke b q w U from hU) k c
def St.Un(h:St V w0 l w)(i:Nat)(hi:l[i]?=some (.o (eI ke b q))){U:aV}(hG:eI ke b q' O U)(hj:dM (λc=>c=b) w O):St V w0 (l.set i (.o (eI ke b q'))) O:=by
 have I:=St.step (a:=[.o (eI ke b q)]) (a2:=[.o (eI ke b q')]) (b:=l.eraseIdx i) (h.front i hi) ⟨eI.framed _ _,trivial⟩ λU1 hM fS=>by obtain⟨U2,_,H,_,k1,_⟩:=hM;have hb:U1 b:=k1 b H.1;exact⟨⟨λc=>c=b,λ_=>False,⟨rfl,hG.2⟩,trivial,λc E => .inl (by rw[show c=b from E];exact hb),λ_ h=>h.elim,λ_ _ h=>h⟩,hj.imp λc E=>by rw[show c=b from E];exact hb⟩
 exact I.perm (iG hi).symm
def St.VR(abk:oo P kt ke)(ht:P.underlying t=some (.map kt et))(h:St V w0 l w)(i:Nat)(hi:l[i]?=some (.o (eI ke b q)))(k:κ)(v:K):∃O,(Instr.mapUpdate t (.map (some b)) (ke k) v).run P w=.ok () O∧St V w0 (l.set i (.o (eI ke b (l9 q k v)))) O:=by obtain⟨U,hU,_⟩:=h.own.see i (iD hi);obtain⟨O,I,G,L⟩:=eI.put abk ht (show eI ke b q w U from hU) k v;exact⟨O,I,h.Un i hi G L⟩
def St.Zu(abk:oo P kt ke)(ht:P.underlying t=some (.map kt et))(h:St V w0 l w)(i:Nat)(hi:l[i]?=some (.o (eI ke b q)))(k:κ):∃O,(∀ty,(Builtin.delete_ #[t,kt] ty #[.map (some b),ke k]).run P w=.ok (a_ #[]) O)∧St V w0 (l.set i (.o (eI ke b (lD q k)))) O:=by obtain⟨U,hU,_⟩:=h.own.see i (iD hi);obtain⟨O,I,G,L⟩:=eI.del abk ht (show eI ke b q w U from hU) k 0;exact⟨O,λty=>I,h.Un i hi G L⟩
end
section
def dU(hw:bN o (yielded ops a.tmps)=true)(ty:dC)(x:Operand)(ho:o.op=.load ty x)(g:Nat)(Y:a.eval x=(g:K))(hB:eJ w g t cs){fs:Array Field}(hu:P.underlying ty=some (.struct fs))(hi:(P.info? ty).map (·.size)=some cs.size)
 (h:wpList P ops abo rest (a.put o.dst (aZ cs)) w):wpList P ops abo (o::rest) a w:=by unfold wpList;rw[aA hw];exact .inl (wp_load_row ty x ho g Y t cs (0,0) _ hB hu rfl hi h)
def un(hw:bN o (yielded ops a.tmps)=true)(ty:dC)(x y:Operand)(ho:o.op=.store ty x y)(g:Nat)(Y:a.eval x=(g:K))(vs:List K)(hy:a.eval y=aZ vs.toArray)(hB:eJ w g t cs)(hl:vs.length=cs.size)(I:vs.toArray.all (·.oneCell')=true)(hi:(P.info? ty).map (·.size)=some vs.toArray.size)
 (h:wpList P ops abo rest (a.put o.dst undef) (w.setCells g 0 vs)):wpList P ops abo (o::rest) a w:=by
 unfold wpList;rw[aA hw];refine .inl (wp_store_mid ty x y ho g 0 vs.toArray Y hy ?_ hi I (by simpa using h));intro j hj;have lR:j<cs.size:=by simp at hj;omega
 refine⟨?_,?_⟩;·rw[hB.cell,Array.getElem?_eq_getElem ap];rfl
 ·exact hB.frozen _
def sS(hw:bN o (yielded ops a.tmps)=true)(ty:dC)(x y:Operand)(ho:o.op=.store ty x y)(g b:Nat)(Y:a.eval x=.pointer (some ⟨g,b,none⟩))(vs:List K)(hy:a.eval y=aZ vs.toArray)(hB:eJ w g t cs)(hl:b+vs.length<=cs.size)(I:vs.toArray.all (·.oneCell')=true)(hi:(P.info? ty).map (·.size)=some vs.toArray.size)
 (h:wpList P ops abo rest (a.put o.dst undef) (w.setCells g b vs)):wpList P ops abo (o::rest) a w:=by
 unfold wpList;rw[aA hw];refine .inl (wp_store_mid ty x y ho g b vs.toArray Y hy ?_ hi I (by simpa using h));intro j hj;have lR:b+j<cs.size:=by simp at hj;omega
 refine⟨?_,?_⟩;·rw[hB.cell,Array.getElem?_eq_getElem lR];rfl
 ·exact hB.frozen _
def eJ.part(h:eJ w g t cs)(b:Nat)(vs:List K)(hl:b+vs.length<=cs.size):eJ (w.setCells g b vs) g t (cs.toList.take b++vs++cs.toList.drop (b+vs.length)).toArray:=by
 obtain⟨cur,I,G,L⟩:=iC g t (0,0) vs b w cs h hl;have h4:cur=(cs.toList.take b++vs++cs.toList.drop (b+vs.length)).toArray:=by apply Array.ext';rw[L]
 rw[h4] at I;exact I
def uo(g b:Nat)(vs:List K)(w:X):dM (λx=>x=g) w (w.setCells g b vs):=dM.jA (gM g vs b w) rfl
def Dn(hw:bN o (yielded ops a.tmps)=true)(ty:dC)(x y:Operand)(ho:o.op=.store ty x y)(g:Nat)(Y:a.eval x=(g:K))(vs:List K)(hy:a.eval y=aZ vs.toArray)(hB:eJ w g t cs)(hl:vs.length=cs.size)(I:vs.all (λv=>v.oneCell')=true)(hi:(P.info? ty).map (·.size)=some vs.toArray.size)
 (h:∀O,eJ O g t vs.toArray->dM (λb=>b=g) w O->(O:Nat)=(w:Nat)->wpList P ops abo rest (a.put o.dst undef) O):wpList P ops abo (o::rest) a w:=
 un hw ty x y ho g Y vs hy hB hl (by simpa using I) hi (h _ (hB.all vs hl) (dM.jA (gM g vs 0 w) rfl) (setCells_size g vs 0 w))
def pX(hw:bN o (yielded ops a.tmps)=true)(ty:dC)(x y:Operand)(ho:o.op=.store ty x y)(g b:Nat)(Y:a.eval x=.pointer (some ⟨g,b,none⟩))(vs:List K)(hy:a.eval y=aZ vs.toArray)(hB:eJ w g t cs)(hl:b+vs.length<=cs.size)(I:vs.all (λv=>v.oneCell')=true)(hi:(P.info? ty).map (·.size)=some vs.toArray.size){cs':aP}(E:cs'=(cs.toList.take b++vs++cs.toList.drop (b+vs.length)).toArray)
 (h:∀O,eJ O g t cs'->dM (λb=>b=g) w O->(O:Nat)=(w:Nat)->wpList P ops abo rest (a.put o.dst undef) O):wpList P ops abo (o::rest) a w:=
 sS hw ty x y ho g b Y vs hy hB hl (by simpa using I) hi (h _ (E▸hB.part b vs hl) (uo g b vs w) (setCells_size g vs b w))
def ou(hw:bN o (yielded ops a.tmps)=true)(eR:(execOp a.eval o).run P w=.ok (.value v) O)(h:wpList P ops abo rest (a.put o.dst v) O):wpList P ops abo (o::rest) a w:=by unfold wpList;rw[aA hw];refine .inl ?_;unfold Oper.wp;simp only[eR];exact h
def kf(hw:bN o (yielded ops a.tmps)=true)(eR:(execOp a.eval o).run P w=.ok (.value ((((w:Nat),0):K))) (w.alloc (.cells cs t)))
 (h:∀g O,eJ O g t cs->Grow w O->(w:Nat)=g->(O:Nat)=g+1->wpList P ops abo rest (a.put o.dst (((g:Nat):K))) O):wpList P ops abo (o::rest) a w:=
 ou hw eR (h _ _ (eJ.made w t cs) ((Below.refl _ w).alloc (bh _) _) rfl (by simp))
def fy{fn:Func}{p:Tmp}(h:fn.results=#[.cell p ty])(tmps:aP)(g:Nat)(hp:tmps.getD p undef=(g:K))(hB:eJ w g t cs){fs:Array Field}(hu:P.underlying ty=some (.struct fs))(hi:(P.info? ty).map (·.size)=some cs.size):(results fn tmps).run P w=.ok (aZ cs) w:=results_cell_row h tmps w g t cs (0,0) _ hp hB hu rfl hi
def dZ{fn:Func}{p q:Tmp}(h:fn.results=#[.cell p ty,.tmp q])(tmps:aP)(g:Nat)(hp:tmps.getD p undef=(g:K))(hB:eJ w g t cs){fs:Array Field}(hu:P.underlying ty=some (.struct fs))(hi:(P.info? ty).map (·.size)=some cs.size):(results fn tmps).run P w=.ok (a_ #[aZ cs,tmps.getD q undef]) w:=by
 have V9:tmps[p]?.getD undef=(g:K):=by simpa using hp
 simp[results,h,V9,asAddr,run_loadVar_row w g t ty cs (0,0) _ hB hu rfl hi]
def eJ.fill(h:eJ w g t cs)(vs:List K)(hl:vs.length=cs.size):eJ (w.setCells g 0 vs) g t vs.toArray:=h.all vs hl
def uq(b:Nat)(vs:List K)(w:X):dM (λx=>x=b) w (w.setCells b 0 vs):=dM.jA (gM b vs 0 w) rfl
end
section
theorem sT(w:X)(b k:Nat)(ty:dC)(v:K)(E:(w.cell? ⟨b,k,none⟩).isSome=true)(hf:w.frozen? ⟨b,k,none⟩=false)(hi:(P.info? ty).map (·.size)=some 1)(I:v.oneCell'=true):(storeVar ty ⟨b,k,none⟩ v).run P w=.ok () (w.setCell ⟨b,k,none⟩ v):=by
 have jQ:v.cells=#[v]:=by cases v<;>first|rfl|cases I
 have:=run_storeCells_cells (P:=P) b k [v] 0 w (λj hj=>by simp at hj;subst hj;simpa using E) (λj hj=>by simp at hj;subst hj;simpa using hf) (λx Y=>by simp at Y;subst Y;exact I);cases hq:P.info? ty with
 | none=>simp[hq] at hi
 | some i=>
   have hs:1=i.size:=by simp[hq] at hi;omega
   simp only[Nat.add_zero] at this;simp[storeVar,sizeOf,typeInfo,hq,jQ,<-hs] at this ⊢;simpa [World.setCells] using this
def Dp(hw:bN o (yielded ops a.tmps)=true)(ty:dC)(x y:Operand)(ho:o.op=.store ty x y)(g b:Nat)(Y:a.eval x=.pointer (some ⟨g,b,none⟩))(v:K)(hy:a.eval y=v)(hB:eJ w g t cs)(hl:b<cs.size)(I:v.oneCell'=true)(hi:(P.info? ty).map (·.size)=some 1)
 (h:∀O,Hid (O=w.setCell ⟨g,b,none⟩ v)->wpList P ops abo rest (a.put o.dst undef) O):wpList P ops abo (o::rest) a w:=by unfold wpList;rw[aA hw];refine .inl ?_;unfold Oper.wp execOp;simp only[ho,Y,hy,Instr.storeAt,Instr.sureAddr,Sem.run_bind,Sem.run_pure,Result.andThen_ok,sT w g b ty v (by rw[hB.cell,Array.getElem?_eq_getElem hl];rfl) (hB.frozen _) hi I];exact h _ rfl
end
section
def St.grown(h:St (λ_=>False) w0 l w):Grow w0 w:=h.just.below (λ_ N=>N.elim False.elim id) (bh _)
def fv(hS:St V w0 l w)(i:Nat)(hi:l[i]?=some (.c g t cs))(ty:dC)(x y:Operand)(ho:o.op=.store ty x y)(b:Nat)(Y:a.eval x=.pointer (some ⟨g,b,none⟩))(v:K)(hy:a.eval y=v)(hl:b<cs.size)(I:v.oneCell'=true)(hi1:(P.info? ty).map (·.size)=some 1)(hw:bN o (yielded ops a.tmps)=true)
 (h:∀O,St V w0 (l.set i (.c g t (cs.setIfInBounds b v))) O->wpList P ops abo rest (a.put o.dst undef) O):wpList P ops abo (o::rest) a w:=
 Dp hw ty x y ho g b Y v hy (hS.blk i hi) hl I hi1 λO e=>by rw[e.out];exact h _ (hS.put i hi b v)
def d_(hS:St V w0 l w)(i:Nat)(hi:l[i]?=some (.c g t cs))(ty:dC)(x y:Operand)(ho:o.op=.store ty x y)(b:Nat)(Y:a.eval x=.pointer (some ⟨g,b,none⟩))(vs:List K)(hy:a.eval y=aZ vs.toArray)(hl:b+vs.length<=cs.size)(I:vs.all (λv=>v.oneCell')=true)(hi1:(P.info? ty).map (·.size)=some vs.toArray.size)(cs':aP)(E:cs'=(cs.toList.take b++vs++cs.toList.drop (b+vs.length)).toArray)(hw:bN o (yielded ops a.tmps)=true)
 (h:∀O,St V w0 (l.set i (.c g t cs')) O->wpList P ops abo rest (a.put o.dst undef) O):wpList P ops abo (o::rest) a w:=
 pX hw ty x y ho g b Y vs hy (hS.blk i hi) hl I hi1 E λO hB hj _=>h O (hS.turned i hi hj hB)
def kG(hS:St V w0 l w)(i:Nat)(hi:l[i]?=some (.c g t cs))(ty:dC)(x:Operand)(ho:o.op=.load ty x)(Y:a.eval x=(g:K)){fs:Array Field}(hu:P.underlying ty=some (.struct fs))(hi1:(P.info? ty).map (·.size)=some cs.size)(hw:bN o (yielded ops a.tmps)=true)
 (h:wpList P ops abo rest (a.put o.dst (aZ cs)) w):wpList P ops abo (o::rest) a w:=dU hw ty x ho g Y (hS.blk i hi) hu hi1 h
end
section
variable{size:Nat}{xs:List K}
def fK(e size:Nat)(u:K)(n:Nat)(xs:List K):dW:=λw V=>Row w V e size u n xs
def fK.framed(e size:Nat)(u:K)(n:Nat)(xs:List K):eu (fK e size u n xs):=λ_ _ _ h N=>Row.keep h λb hb _=>N b hb
def fK.nW(h:St V w0 l w)(i:Nat)(hi:l[i]?=some (.o (fK e size u n xs))):∃A c,u=Z A n c∧n<=c∧c<=dG:=by obtain⟨U,hU,_⟩:=h.own.see i (iD hi);obtain⟨A,c,I,_,G⟩:=Row.jL hU;exact⟨A,c,I,G⟩
def fK.sl(h:St V w0 (.o (fK e size u n xs)::l) w):∃A c,u=Z A n c∧n<=c∧c<=dG:=by obtain⟨U,hU,_⟩:=h.own.see 0 rfl;obtain⟨A,c,I,_,G⟩:=Row.jL hU;exact⟨A,c,I,G⟩
def St.a3T{t:Nat}(abl:Elem P t e size bytes z)(h:St V w0 (.o (fK e size u n xs)::l) w){A:aU}{m:Nat}{news:List K}(hr:Reads w B size A m news)(I:∀u∈news,u.oneCell'=true)(fw:(n+m)*bytes<=140737488355328)(ty:dC)(c:Nat):∃v' O,(cn #[t,t] ty #[u,Z A m c]).run P w=.ok v' O∧St V w0 (.o (fK e size v' (n+m) (xs++news))::l) O:=by
 obtain⟨⟨h0,V1,⟨U1,U2,T,hB,k1,k2,k3⟩,hV⟩,hj,ho,fS⟩:=h;obtain⟨v',O,eR,hO,lR⟩:=mL abl w ty u n xs T B A m c news hr I fw;have s3:=lR.size;refine⟨v',O,eR,⟨⟨λx Y=>h0 x ap,iY V1 w O,⟨iY U1 w O,U2,hO,?_,λx Y=>Y.imp (k1 x) id,λx Y => .inl (k2 x Y),λx Y G=>?_⟩,λx Y=>?_⟩,hj.trans (lR.imp λx Y=>(hV x (k1 x Y)).1),⟨fK.framed _ _ _ _ _,ho.2⟩,fS⟩⟩;·exact dN.framed _ (fP ho.2) w O U2 hB λx Y=>lR.block x (hV x (k2 x Y)).2 λhr=>k3 x hr Y
 ·rcases Y with Y|Y
  ·exact k3 x Y G
  ·have:=(hV x (k2 x G)).2;have:=Y.1;omega
 ·rcases Y with Y|Y
  ·exact⟨(hV x Y).1,by have:=(hV x Y).2;omega⟩
  ·exact⟨h0 x Y.1,Y.2⟩
def g_{t:Nat}(abl:Elem P t e size bytes z)(hw:bN o (yielded ops a.tmps)=true)(s x:Operand)
 (ho:o.op=.call { callee := .builtin .append,args:=#[s,x],argTypes:=#[t,t] }) (hs:a.eval s=u) (h:St V w0 (.o (fK e size u n xs)::l) w) {B:Nat} {A:aU} {m c:Nat} {news:List K} (Y:a.eval x=Z A m c) (hr:Reads w B size A m news) (I:∀u∈news,u.oneCell'=true) (fw:(n+m)*bytes<=140737488355328)
 (N:∀v' O,St V w0 (.o (fK e size v' (n+m) (xs++news))::l) O->wpList P ops abo rest (a.put o.dst v') O):wpList P ops abo (o::rest) a w:=by obtain⟨v',O,eR,G⟩:=h.a3T abl hr I fw o.type c;unfold wpList;rw[aA hw];refine .inl ?_;unfold Oper.wp execOp;simp only[ho,resolve,invoke,builtin,Sem.run_bind,Sem.run_pure,Result.andThen_ok,cV,bQ,cQ,hs,Y,eR];exact N v' O G
def fK.shape(h:St V w0 (.o (fK e size u n xs)::l) w)(hn:0<n):∃g c,u=Z (some ⟨g,0,none⟩) n c∧n<=c∧c<=dG:=by
 obtain⟨U,hU,_⟩:=h.own.see 0 rfl;obtain⟨_,h0|⟨g,c,cur,he,_,_,I,G,_⟩⟩:=(show Row w U e size u n xs from hU);·omega
 ·exact⟨g,c,he,I,G⟩
def fK.at_(h:St V w0 (.o (fK e size (Z (some (g,0)) n c) n xs)::l) w):(∀j,j<n*size->w.cell? ⟨g,j,none⟩=xs[j]?)∧∀j,w.frozen? ⟨g,j,none⟩=false:=by
 obtain⟨U,hU,_⟩:=h.own.see 0 rfl;obtain⟨hl,h0|⟨g',cap,cur,he,hV,H,kM,iO,jQ,j9⟩⟩:=(show Row w U e size (Z (some (g,0)) n c) n xs from hU);·injection h0.1 with I;cases I
 injection he with I _ L;injection I with I;injection I with I;subst I L;have hB:eJ w g e cur:=H;exact⟨λj hj=>by rw[hB.cell,<-j9,List.getElem?_take,aA hj,Array.getElem?_toList],λj=>hB.frozen j⟩
theorem Row.put{g c:Nat}{w:X}{V:aV}(h:Row w V e size (Z (some (g,0)) n c) n xs)(j:Nat)(v:K):Row (w.setCell ⟨g,j,none⟩ v) V e size (Z (some (g,0)) n c) n (xs.set j v):=by
 obtain⟨hl,h0|⟨g',cap,cur,he,hV,H,kM,iO,jQ,j9⟩⟩:=h;·injection h0.1 with I;cases I
 injection he with I _ L;injection I with I;injection I with I;subst I L;have hB:eJ w g e cur:=H;exact⟨by rw[dh];exact hl,.inr ⟨g,c,_,rfl,hV,hB.put j v,kM,iO,by rw[Array.size_setIfInBounds];exact jQ,by rw[<-j9,Array.toList_setIfInBounds,List.take_set]⟩⟩
def St.a3U(h:St V w0 (.o (fK e size (Z (some (g,0)) n c) n xs)::l) w)(j:Nat)(v:K):St V w0 (.o (fK e size (Z (some (g,0)) n c) n (xs.set j v))::l) (w.setCell ⟨g,j,none⟩ v):=by
 obtain⟨⟨h0,V1,⟨U1,U2,T,hB,k1,k2,k3⟩,hV⟩,hj,ho,fS⟩:=h;have H:U1 g:=by
  obtain⟨hl,h0|⟨g',cap,cur,he,hV,H,_⟩⟩:=(show Row w U1 e size (Z (some (g,0)) n c) n xs from T);·injection h0.1 with I;cases I
  injection he with I _ L;injection I with I;injection I with I;subst I;exact hV
 have lR:=kD w g j v;refine⟨⟨λx Y=>h0 x (by rwa [gg] at Y),V1,⟨U1,U2,Row.put T j v,dN.framed _ (fP ho.2) w _ U2 hB λx Y=>lR.block x (hV x (k2 x Y)).2 λe=>k3 x (by rw[show x=g from e];exact H) Y,k1,k2,k3⟩,λx Y=>by rw[gg];exact hV x Y⟩,hj.trans (lR.imp λx Y=>by rw[show x=g from Y];exact (hV g (k1 g H)).1),⟨fK.framed _ _ _ _ _,ho.2⟩,fS⟩
end
section
variable{α:Type}{size:Nat}{cells:α->List K}{good:X->(Nat->Prop)->α->Prop}
variable{t:Nat}{w1:X}{u2:K}{q q2:List α}
def Nt(m_:∀a,∀u∈cells a,u.oneCell'=true)(q:List α):∀u∈q.flatMap cells,u.oneCell'=true:=λu hu=>by obtain⟨a,_,ha⟩:=List.mem_flatMap.1 hu;exact m_ a u ha
def St.cat(abl:Elem P t e size bytes z)(hG:lE good)(hM:iz good)(m_:∀a,∀u∈cells a,u.oneCell'=true)
 (h:St V w0 (.o (h_ e size cells good u q)::.o (h_ e size cells good u2 q2)::l) w) (fw:(q.length+q2.length)*bytes<=140737488355328) (ty:dC):∃v' O,(cn #[t,t] ty #[u,u2]).run P w=.ok v' O∧St V w0 (.o (h_ e size cells good v' (q++q2))::l) O:=by
 obtain⟨⟨h0,V1,⟨U1,U2,⟨R,D,I,G,L,h4⟩,⟨U3,U4,⟨R2,D2,g1,g2,g3,g4⟩,hB,m1,m2,m3⟩,k1,k2,k3⟩,hV⟩,hj,ho,fS⟩:=h;obtain⟨A,c,rfl,rx,_,_⟩:=g1.reads;obtain⟨v',O,eR,hO,lR⟩:=jq abl w ty u q.length (q.flatMap cells) I (w:Nat) A q2.length c (q2.flatMap cells) rx (Nt m_ q2) fw;have s3:=lR.size;have hold:∀x,x<(w:Nat)->¬ R x->O.heap[x]?=w.heap[x]?:=λx Y hr=>lR.block x Y hr;have lt1:∀x,U1 x->x<(w:Nat):=λx Y=>(hV x (k1 x Y)).2;have lt2:∀x,U2 x->x<(w:Nat):=λx Y=>(hV x (k2 x Y)).2;refine⟨v',O,eR,⟨⟨λx Y=>h0 x ap,λx=>V1 x∨New w O x,⟨λx=>U1 x∨U3 x∨New w O x,U4,⟨iY R w O,λx=>D x∨D2 x,?_,λa ha=>?_,λx Y=>?_,λx Y=>?_⟩,?_,λx Y=>?_,λx Y => .inl (k2 x (m2 x Y)),λx Y h5=>?_⟩,λx Y=>?_⟩,?_,⟨h_.framed hG _ _,ho.2.2⟩,fS⟩⟩
 ·rw[bL,bd]
  exact hO
 ·rcases List.mem_append.1 ha with ha|ha
  ·exact hM _ D _ _ (hG w O D a (G a ha) λx Y=>hold x (lt1 x (h4 x Y)) λhr=>(L x hr).2 Y) λ_ => .inl
  ·exact hM _ D2 _ _ (hG w O D2 a (g2 a ha) λx Y=>hold x (lt2 x (m1 x (g4 x Y))) λhr=>k3 x (L x hr).1 (m1 x (g4 x Y))) λ_ => .inr
 ·rcases Y with Y|⟨rI,lw⟩
  ·exact⟨.inl (L x Y).1,λhd=>hd.elim (L x Y).2 λhd=>k3 x (L x Y).1 (m1 x (g4 x hd))⟩
  ·exact⟨.inr (.inr ⟨rI,lw⟩),λhd=>hd.elim (λhd=>by have:=lt1 x (h4 x hd);omega) λhd=>by have:=lt2 x (m1 x (g4 x hd));omega⟩
 ·rcases Y with Y|Y
  ·exact .inl (h4 x Y)
  ·exact .inr (.inl (g4 x Y))
 ·exact dN.framed _ (fP ho.2.2) w O U4 hB λx Y=>hold x (lt2 x (m2 x Y)) λhr=>k3 x (L x hr).1 (m2 x Y)
 ·rcases Y with Y|Y|Y
  ·exact .inl (k1 x Y)
  ·exact .inl (k2 x (m1 x Y))
  ·exact .inr Y
 ·rcases Y with Y|Y|Y
  ·exact k3 x Y (m2 x h5)
  ·exact m3 x Y h5
  ·have:=lt2 x (m2 x h5);have:=Y.1;omega
 ·rcases Y with Y|Y
  ·exact⟨(hV x Y).1,by have:=(hV x Y).2;omega⟩
  ·exact⟨h0 x Y.1,Y.2⟩
 ·exact hj.trans (lR.imp λx Y=>(hV x (k1 x (L x Y).1)).1)
def xr(abl:Elem P t e size bytes z)(hG:lE good)(hM:iz good)(m_:∀a,∀u∈cells a,u.oneCell'=true)(hw:bN o (yielded ops a.tmps)=true)(s x:Operand)
 (ho:o.op=.call { callee := .builtin .append,args:=#[s,x],argTypes:=#[t,t] }) (hs:a.eval s=u) (Y:a.eval x=u2) (h:St V w0 (.o (h_ e size cells good u q)::.o (h_ e size cells good u2 q2)::l) w) (fw:(q.length+q2.length)*bytes<=140737488355328)
 (N:∀v' O,St V w0 (.o (h_ e size cells good v' (q++q2))::l) O->wpList P ops abo rest (a.put o.dst v') O):wpList P ops abo (o::rest) a w:=by obtain⟨v',O,eR,G⟩:=h.cat abl hG hM m_ fw o.type;unfold wpList;rw[aA hw];refine .inl ?_;unfold Oper.wp execOp;simp only[ho,resolve,invoke,builtin,Sem.run_bind,Sem.run_pure,Result.andThen_ok,cV,bQ,cQ,hs,Y,eR];exact N v' O G
end
section
variable{md:Region.Mode}
def ut(P:dD)(md:Region.Mode)(ops:Array dE)(abo:Exit->dF->X->Prop)(S:X->Prop)(Bs:aQ):Nat->Array Bool->dF->X->Prop
 | 0,listed,a,w=>cC md ops listed=[]∧abo .normal a w
 | fuel+1,listed,a,w=>
   (cC md ops listed=[]->abo .normal a w)∧
   ∀i∈cC md ops listed,wpOp P ops abo i (λa' O=>(Bs.contains i=false->S O)∧ut P md ops abo S Bs fuel (listed.setIfInBounds i true) a' O) a w
theorem xu:∀(fuel:Nat)(listed:Array Bool)(a:dF)(w:X),ut P md ops abo S Bs fuel listed a w->wpAny P md ops abo fuel listed a w
 | 0,_,_,_,h=>h
 | fuel+1,_,_,_,h=>⟨h.1,λi hi=>wpOp_mono (λa' O h'=>xu fuel _ a' O h'.2) (h.2 i hi)⟩
def waitsFor(md:Region.Mode)(ops:Array dE)(i B:Nat):Bool:=match ops[B]? with
 | none=>true
 | some o=>o.after.any λe=>Region.binds md e&&(e.on == i)
def waitsFor_spec(h:waitsFor md ops i B=true)(ho:ops[B]?=some o):∃e∈o.after,Region.binds md e=true∧e.on=i:=by unfold waitsFor at h;rw[ho] at h;simp only[Array.any_eq_true,bU,beq_iff_eq] at h;obtain⟨k,N,I,G⟩:=h;exact⟨_,Array.getElem_mem N,I,G⟩
theorem sU{oi:dE}(hi:ops[i]?=some oi)(a1A:∀(j:Nat)(o:dE)cs b,ops[j]?=some o->o.op ≠ .select cs b)
 (hQ:∀c a w,abo (.panic c) (a.put oi.dst v) w->abo (.panic c) a w) (hB:Bs.all (waitsFor md ops i)=true):∀(fuel:Nat)(listed:Array Bool)(a:dF)(w:X),
   (∀j oj,ops[j]?=some oj->j≠i->listed.getD j true=false->(∀e∈oj.after,Region.binds md e=true->e.on≠i)->oi.apart ops oj=true)->
   i∈cC md ops listed->YieldsIf P ops S oi v a->S w->
   ut P md ops abo S Bs fuel (listed.setIfInBounds i true) (a.put oi.dst v) w->ut P md ops abo S Bs (fuel+1) listed a w:=by
 intro fuel
 induction fuel with
 | zero=>
   intro listed a w _ hr hy hS abj
   refine⟨λh=>(by rw[h] at hr;cases hr),λj hj=>?_⟩
   by_cases F3:j=i
   ·subst F3;exact hy.wpOp hi hS ⟨λ_=>hS,abj⟩
   ·have:=ready_mono hj F3
    rw[abj.1] at this
    cases this
 | succ fuel ih=>
   intro listed a w Vd hr hy hS abj
   refine⟨λh=>(by rw[h] at hr;cases hr),λj hj=>?_⟩
   by_cases F3:j=i
   ·subst F3;exact hy.wpOp hi hS ⟨λ_=>hS,abj⟩
   ·have I:=abj.2 j (ready_mono hj F3)
    obtain⟨a1B,oj,hoj,o5⟩:=mem_ready.1 hj
    have a1C:∀e∈oj.after,Region.binds md e=true->e.on≠i:=λe he hb heq=>by
     have I:=o5 e he hb;have h0:=(mem_ready.1 hr).1;rw[heq] at I;rcases Nat.lt_or_ge i listed.size with h'|h'
     ·simp[h'] at h0 I;rw[h0] at I;cases I
     ·simp[Array.getElem?_eq_none h'] at I
    have hjB:Bs.contains j=false:=by
     cases E:Bs.contains j with
     | false=>rfl
     | true=>
       obtain⟨e,he,h5,h6⟩:=waitsFor_spec (List.all_eq_true.1 hB j (by simpa using E)) hoj;exact absurd h6 (a1C e he h5)
    have G:=wpOp_putIf hoj (Vd j oj hoj F3 a1B a1C) (λcs b=>a1A i oi cs b hi) (λcs b=>a1A j oj cs b hoj) hQ hy I
    have Y4:∀k ok,ops[k]?=some ok->k≠i->(listed.setIfInBounds j true).getD k true=false->
     (∀e∈ok.after,Region.binds md e=true->e.on≠i)->oi.apart ops ok=true:=λk ok N YY hun kh=>by
     refine Vd k ok N YY ?_ kh;by_cases Vb:j=k;·subst Vb;exact a1B
     ·rw[getD_set_ne true Vb] at hun;exact hun
    refine wpOp_mono (λa' O L=>⟨L.2.1,ih (listed.setIfInBounds j true) a' O Y4 (ready_mono hr (Ne.symm F3)) L.1 (L.2.1 hjB) ?_⟩) G
    rw[Array.setIfInBounds_comm _ _ F3]
    exact L.2.2
end
def lF(ks:aQ)(P:dD)(ops:Array dE)(abo:Exit->dF->X->Prop)(S:X->Prop)(Bs:aQ)(n:Nat)(abn:Array Bool)(a:dF)(w:X):Prop:=ut P .any ops abo S Bs n abn a w
section
def fC{k:Nat}(S:X->Prop)(Bs:aQ)(n:Nat)(hn:ops.size-k=n)(ks:aQ)(h:lF ks P ops abo S Bs n (tZ ops.size k) a w):Yq P ops abo k a w:=by unfold Yq;rw[hn];exact xu _ _ _ _ h
def vX(ks:aQ)(h:lF ks P ops abo S Bs n abn a w):lF [] P ops abo S Bs n abn a w:=h
def eV{o:Oper}{v:Value}(hi:ops[i]?=some o)(F8:S w)(hy:∀w,S w->∀(R:Value->Act->Prop),R v a'->ze R a o w ((execOp a.eval o).run P w))(h:lF ks P ops abo S Bs n (abn.setIfInBounds i true) a' w)
 (hs:Region.noSelect ops=true:=by kernel_rfl) (hf:Region.free .any ops abn i=true:=by kernel_rfl) (hr:(Region.ready .any ops abn).contains i=true:=by kernel_rfl)
 (hQ:∀c a w,abo (.panic c) (a.put o.dst v) w->abo (.panic c) a w:=by exact λ_ _ _ h=>h) (hw:Region.wanted o (yielded ops a.tmps)=true:=by kernel_rfl) (hB:Bs.all (waitsFor .any ops i)=true:=by kernel_rfl):lF (i::ks) P ops abo S Bs (n+1) abn a w:=by
 have key:∀w1,S w1->(execOp a.eval o).run P w1=.ok (.value v) w1∧a.put o.dst v=a':=λw1 ej=>by
  have I:=hy w1 ej (λu b=>u=v∧b=a') ⟨rfl,rfl⟩;cases hr:(execOp a.eval o).run P w1 with
  | ok n O=>
    rw[hr] at I;cases n with
    | value u=>
      obtain⟨rfl,rfl,G⟩:=I;exact⟨rfl,G⟩
    | _=>exact I.elim
  | halt _ _=>rw[hr] at I;exact I.elim
 exact sU hi (Region.noSelect_spec hs) hQ hB n abn a w (Region.free_spec hi hf) (by simpa using hr) (.inl ⟨hw,λw1 I=>(key w1 I).1⟩) F8 (by rw[(key w F8).2];exact h)
def Ru{o:Oper}(hi:ops[i]?=some o)(F8:S w)(h:lF ks P ops abo S Bs n (abn.setIfInBounds i true) a' w)
 (hs:Region.noSelect ops=true:=by kernel_rfl) (hf:Region.free .any ops abn i=true:=by kernel_rfl) (hr:(Region.ready .any ops abn).contains i=true:=by kernel_rfl)
 (hQ:∀c a w,abo (.panic c) (a.put o.dst undef) w->abo (.panic c) a w:=by exact λ_ _ _ h=>h) (hw:Region.wanted o (yielded ops a.tmps)=false:=by kernel_rfl) (hn:∀R:Act->Prop,R a'->R (a.put o.dst undef):=by intro R T;go_simp;exact T) (hB:Bs.all (waitsFor .any ops i)=true:=by kernel_rfl):lF (i::ks) P ops abo S Bs (n+1) abn a w:=
 sU hi (Region.noSelect_spec hs) hQ hB n abn a w (Region.free_spec hi hf) (by simpa using hr) (.inr ⟨hw,rfl⟩) F8 (hn (λb=>ut P .any ops abo S Bs n (abn.setIfInBounds i true) b w) h)
def eZ(i:Nat){o:Oper}(ks:aQ)(hi:ops[i]?=some o)(h:wpList P ops (Exit.then (λa' O=>(Bs.contains i=false->S O)∧lF ks P ops abo S Bs n (abn.setIfInBounds i true) a' O) abo) [o] a w)
 (hr:Region.ready .any ops abn=[i]:=by kernel_rfl):lF [] P ops abo S Bs (n+1) abn a w:=by
 refine⟨λh0=>(by rw[hr] at h0;cases h0),λi' tR=>?_⟩;rw[hr] at tR;rw[List.mem_singleton.1 tR];unfold wpList at h;unfold wpOp;rw[hi];simp only;split
 ·rename_i hw
  rw[aA hw] at h;refine h.imp (λL=>?_) (λL=>⟨L.1,?_⟩)
  ·unfold Oper.wp at L ⊢
   generalize (execOp a.eval o).run P w=r at *;cases r with
   | ok n O=>
     cases n<;>simp only[Oper.upon] at L ⊢<;>first
      | exact L
      | exact Calls.mono L (λe w'' he=>by
       cases e with
       | returned u=>exact he
       | panicked c=>exact he
       | outgrown=>obtain⟨a1,w1,h5⟩:=he;exact⟨a1,w1,h5⟩)
   | halt x O=>cases x<;>simp only[Oper.upon] at L ⊢<;>exact L
  ·obtain⟨a1,w1,h5⟩:=L.2;exact⟨a1,w1,h5⟩
 ·rename_i hw
  rw[aB hw] at h;exact h
theorem gj(h:abo .normal a w)(hr:Region.ready .any ops abn=[]:=by kernel_rfl):lF [] P ops abo S Bs n abn a w:=by
 cases n with
 | zero=>exact⟨hr,h⟩
 | succ n=>exact⟨λ_=>h,λi hi=>by rw[hr] at hi;cases hi⟩
def xv(ops:Array dE)(Bs:aQ):Array Bool->List Nat->Bool
 | abn,[]=>(cC .any ops abn).isEmpty
 | abn,j::js=>(cC .any ops abn == [j])&&Bs.contains j&&xv ops Bs (abn.setIfInBounds j true) js
theorem sV:∀(js:aQ)(os:List dE){n:Nat}{abn:Array Bool}{a:dF}{w:X},js.map (λj=>ops[j]?)=os.map some->n=js.length->xv ops Bs abn js=true->wpList P ops abo os a w->lF [] P ops abo S Bs n abn a w
 | [],os,n,abn,a,w,ho,hn,hl,h=>by
   obtain rfl:os=[]:=by cases os with|nil=>rfl|cons=>simp at ho
   exact gj h (by simpa [xv] using hl)
 | j::js,os,n,abn,a,w,ho,hn,hl,h=>by
   cases os with
   | nil=>simp at ho
   | cons o os=>
     simp only[bQ,List.cons.injEq] at ho;simp only[xv,bU,beq_iff_eq] at hl;obtain rfl:n=js.length+1:=by simpa using hn
     refine eZ j [] ho.1 ?_ hl.1.1;unfold wpList at h ⊢;split
     ·rename_i hw
      rw[aA hw] at h;refine h.imp (λL=>?_) (λL=>⟨L.1,?_⟩)
      ·unfold Oper.wp at L ⊢
       generalize (execOp a.eval o).run P w=r at *;cases r with
       | ok n O=>
         cases n<;>simp only[Oper.upon] at L ⊢<;>first
          | exact⟨λhb=>absurd hl.1.2 (by rw[hb];simp),sV js os ho.2 rfl hl.2 L⟩
          | exact Calls.mono L (λe w'' he=>by
           cases e with
           | returned u=>exact⟨λhb=>absurd hl.1.2 (by rw[hb];simp),sV js os ho.2 rfl hl.2 he⟩
           | panicked c=>exact he
           | outgrown=>obtain⟨a1,w1,h5⟩:=he;exact⟨a1,w1,h5⟩)
          | exact Rows.mono L λu w'' he=>⟨λhb=>absurd hl.1.2 (by rw[hb];simp),sV js os ho.2 rfl hl.2 he⟩
          | exact L
       | halt x O=>cases x<;>simp only[Oper.upon] at L ⊢<;>exact L
      ·obtain⟨a1,w1,h5⟩:=L.2;exact⟨a1,w1,h5⟩
     ·rename_i hw
      rw[aB hw] at h;exact⟨λhb=>absurd hl.1.2 (by rw[hb];simp),sV js os ho.2 rfl hl.2 h⟩
def fY(k:Nat)(hn:n=ops.size-k)(hl:xv ops Bs abn (List.range' k (ops.size-k))=true)(h:wpList P ops abo (ops.toList.drop k) a w):lF [] P ops abo S Bs n abn a w:=by
 refine sV _ (ops.toList.drop k) (List.ext_getElem? λi=>?_) (by rw[hn,List.length_range']) hl h;rw[List.getElem?_map,List.getElem?_map,List.getElem?_drop];by_cases hi:i<ops.size-k
 ·rw[List.getElem?_range' hi]
  simp only[df,Nat.one_mul,Array.getElem?_toList];rw[Array.getElem?_eq_getElem ap];rfl
 ·rw[List.getElem?_eq_none (by rw[List.length_range'];omega),List.getElem?_eq_none (by rw[bZ];omega)];rfl
end
attribute [irreducible] lF
section
variable{j:Nat}
def Uo{abk:dF->X->Prop}(hi:ops[i]?=some o)(h:wpList P ops (Exit.then abk abo) [o] a w):wpOp P ops abo i abk a w:=by
 unfold wpList at h;unfold wpOp;rw[hi];simp only;split
 ·rename_i hw
  rw[aA hw] at h;refine h.imp (λL=>?_) (λL=>⟨L.1,?_⟩)
  ·unfold Oper.wp at L ⊢
   generalize (execOp a.eval o).run P w=r at *;cases r with
   | ok n O=>
     cases n<;>simp only[Oper.upon] at L ⊢<;>first
      | exact L
      | exact Calls.mono L (λe w'' he=>by
       cases e with
       | returned u=>exact he
       | panicked c=>exact he
       | outgrown=>obtain⟨a1,w1,h5⟩:=he;exact⟨a1,w1,h5⟩)
   | halt x O=>cases x<;>simp only[Oper.upon] at L ⊢<;>exact L
  ·obtain⟨a1,w1,h5⟩:=L.2;exact⟨a1,w1,h5⟩
 ·rename_i hw
  rw[aB hw] at h;exact h
def Rv(i j:Nat){o1 o2:Oper}(k1 k2:aQ)(hi:ops[i]?=some o1)(hj:ops[j]?=some o2)
 (I:wpList P ops (Exit.then (λa' O=>(Bs.contains i=false->S O)∧lF k1 P ops abo S Bs n (abn.setIfInBounds i true) a' O) abo) [o1] a w)
 (G:wpList P ops (Exit.then (λa' O=>(Bs.contains j=false->S O)∧lF k2 P ops abo S Bs n (abn.setIfInBounds j true) a' O) abo) [o2] a w)
 (hr:Region.ready .any ops abn=[i,j]:=by kernel_rfl):lF [] P ops abo S Bs (n+1) abn a w:=by
 delta lF at I G ⊢;refine⟨λh0=>(by rw[hr] at h0;cases h0),λi' tR=>?_⟩;rw[hr] at tR;rcases List.mem_cons.1 tR with rfl|tR
 ·exact Uo hi I
 ·rw[List.mem_singleton.1 tR]
  exact Uo hj G
end
section
variable{κ:Type}{P:Program}{t kt et:TypeId}{ke:κ->Value}{w O:World}{V':aV}
end
def uu(e:dC)(v:K)(l:aQ):dW:=λw V=>Row w V e 1 v l.length (l.map λp=>Value.pointer (some ⟨p,0,none⟩))
def uu.framed(e:dC)(v:K)(l:aQ):eu (uu e v l):=λ_ _ _ h N=>Row.keep h λb hb _=>N b hb
theorem uu.nil(e:dC)(w:X)(V:aV):uu e (Z none 0 0) [] w V:=Row.nil
def Row.range{w:X}{V:aV}{e:dC}{size n:Nat}{v:K}{xs:List K}(h:Row w V e size v n xs)(hn:0<n):∃g cap,v=Z (some ⟨g,0,none⟩) n cap∧V g∧g<(w:Nat)∧n<=cap∧cap<=dG∧w.rangeAt g 0 xs:=by
 obtain⟨A,c,e2,hI,E,hm⟩:=h.jL;rcases h.2 with ⟨_,I⟩|⟨g,cap,cur,I,hV,H,_⟩
 ·omega
 ·rw[I] at e2
  injection e2 with e3 e4 e5;subst e3 e5;obtain⟨ad,ea,_,hb,ia⟩:=hI.2 hn;injection ea with ea;subst ea;refine⟨g,cap,I,hV,hb,E,hm,λj u hu=>?_⟩;rw[<-Addr.add_mid];exact ia j u hu
theorem uu.at{e:dC}{v:K}{l:aQ}{w:X}{V:aV}(h:uu e v l w V)(hl:0<l.length):∃g cap,v=Z (some ⟨g,0,none⟩) l.length cap∧l.length<=cap∧cap<=dG∧g<(w:Nat)∧∀(O:X),Grow w O->∀k(N:k<l.length),O.cell? ⟨g,k,none⟩=some (.pointer (some ⟨l[k],0,none⟩)):=by obtain⟨g,cap,e1,_,H,E,hm,hr⟩:=Row.range h hl;refine⟨g,cap,e1,E,hm,H,λO hw k N=>?_⟩;have:=hr k (.pointer (some ⟨l[k],0,none⟩)) (by simp[N]);rw[cJ] at this;exact (hw.cell (p:=⟨g,k,none⟩) H).trans this
section
variable{Pr:dD}{f:FuncId}{args:aP}{S:dW}{l:List dW}{P:aV}
end
section
def pC(hw:bN o (yielded ops a.tmps)=true)(ty:dC)(x:Operand)(ho:o.op=.load ty x)(g b:Nat)(Y:a.eval x=.pointer (some ⟨g,b,none⟩))(cs:List K)(hr:w.rangeAt g b cs){fs:Array Field}(hu:P.underlying ty=some (.struct fs))(hi:(P.info? ty).map (·.size)=some cs.length)
 (h:wpList P ops abo rest (a.put o.dst (aZ cs.toArray)) w):wpList P ops abo (o::rest) a w:=by unfold wpList;rw[aA hw];exact .inl (wp_load_mid ty x ho g b Y cs _ hr hu rfl hi h)
end
def eJ.range{w:X}{g:Nat}{t:dC}{vs:List K}(h:eJ w g t vs.toArray)(b:Nat)(cs:List K)(E:vs.drop b=cs):w.rangeAt g b cs:=λj u hu=>by subst E;rw[h.cell];simpa using hu
end Go.Hop
section
namespace Go.Hop
open Go.RowKit
open Go.ChangeMaps (setBlock)
section
variable{κ:Type}[DecidableEq κ]{ke:κ->K}{q q' todo:List (κ×K)}
def lG(ke:κ->K)(b r:Nat)(q todo:List (κ×K)):dW:=λw V=>
 (V b∧V r∧b≠r)∧(q.map Prod.fst).Nodup∧∃(es:Array MapEntry)(clock since c0:Nat)(seen:Array Nat),w.heap[b]?=some (.map es clock)∧es.toList.map (λe=>(e.key,e.val))=(q.map λp=>(ke p.1,p.2))∧sP es clock∧
  w.heap[r]?=some (.mapIter (some b) since seen c0)∧(∀x∈es.toList,x.born<since)∧(since<=c0∧since<=clock)∧todo=(q.zip (es.toList.map (·.born))).filterMap λx=>if seen.contains x.2 then none else some x.1
def lG.framed(b r:Nat)(q todo:List (κ×K)):eu (lG ke b r q todo):=λw O V ⟨⟨I,G,h0⟩,L,es,c,s,c0,seen,h4,h5,h6,h7,h8⟩ N=>⟨⟨I,G,h0⟩,L,es,c,s,c0,seen,(N b I).trans h4,h5,h6,(N r G).trans h7,h8⟩
theorem IW:∀(q:List (κ×K))(bs:aQ),q.length=bs.length->(q.zip bs).filterMap (λx=>if (#[]:Array Nat).contains x.2 then none else some x.1)=q
 | [],[],_=>rfl
 | p::q,b::bs,h=>by
   have:=IW q bs (by simpa using h);simp at this ⊢;exact this
theorem St.range(ht:P.underlying t=some (.map kt et))(h:St V w0 l w)(i:Nat)(hi:l[i]?=some (.o (eI ke b q))):∃O,(Instr.range t (.map (some b))).run P w=.ok ((((w:Nat),0):K)) O∧St V w0 (l.set i (.o (lG ke b (w:Nat) q q))) O:=by
 obtain⟨U,hU,_⟩:=h.own.see i (iD hi);obtain⟨hv,hn,es,c,hb,hp,z7⟩:=(show eI ke b q w U from hU);have fS:b<(w:Nat):=(Array.getElem?_eq_some_iff.1 hb).1;have H:(getObj b).run P w=.ok (.map es c) w:=MapKept.run_getObj_map hb;refine⟨w.alloc (.mapIter (some b) c #[] c),by simp[Instr.range,run_underlying ht,H,Result.andThen],?_⟩;have gP:Grow w (w.alloc (.mapIter (some b) c #[] c)):=(Below.refl _ w).alloc (bh _) _;have I:=St.step (a:=[.o (eI ke b q)]) (a2:=[.o (lG ke b (w:Nat) q q)]) (b:=l.eraseIdx i) (h.front i hi) ⟨lG.framed _ _ _ _,trivial⟩ λU1 hM TY=>by obtain⟨U2,_,eD,_,k1,_⟩:=hM;refine⟨⟨iY U1 w (w.alloc (.mapIter (some b) c #[] c)),λ_=>False,?_,trivial,λ_ h=>h,λ_ h=>h.elim,λ_ _ h=>h⟩,dM.dK gP⟩;refine⟨⟨.inl (k1 b eD.1),.inr ⟨bh _,by simp⟩,by omega⟩,hn,es,c,c,c,#[],(gP.block b fS).trans hb,hp,z7,heap_alloc_new w _,z7.2,⟨bh _,bh _⟩,?_⟩;have:=congrArg List.length hp;simp only[bj] at this;exact (IW q _ (by rw[bj];exact this.symm)).symm
 exact I.perm (iG hi).symm
def rE(w:X)(r:Nat)(o:Obj):dM (λc=>c=r) w (setBlock w r o):=pW w r o
theorem xw{α β:Type}{f g:α->Option β}:∀{l:List α},(∀x∈l,f x=g x)->l.filterMap f=l.filterMap g
 | [],_=>rfl
 | x::l,h=>by
   rw[List.filterMap_cons,List.filterMap_cons,h x (by simp),xw λy hy=>h y (by simp[hy])]
theorem rF{α:Type}:∀{l:List α}{i:Nat}{x:α},l[i]?=some x->l.set i x=l
 | [],_,_,h=>by simp at h
 | y::l,0,x,h=>by simp at h;rw[h];rfl
 | y::l,i+1,x,h=>congrArg (y::·) (rF (by simpa using h))
theorem rV{α β:Type}[DecidableEq β](f:α->β):∀{l:List α}{j:Nat}{x:α},(l.map f).Nodup->l[j]?=some x->(l.filter λy=>decide (f y≠f x))=l.eraseIdx j
 | [],_,_,_,h=>by simp at h
 | y::l,0,x,hn,h=>by
   simp at h;subst h;rw[List.filter_cons_of_neg (by simp),List.eraseIdx_zero,List.tail_cons,List.filter_eq_self];intro z hz;simp only[bQ,List.nodup_cons] at hn;simpa using λe=>hn.1 (List.mem_map.2 ⟨z,hz,e⟩)
 | y::l,j+1,x,hn,h=>by
   simp only[bQ,List.nodup_cons] at hn;have h':l[j]?=some x:=by simpa using h
   have jT:f y≠f x:=λe=>hn.1 (by rw[e];exact List.mem_map.2 ⟨x,List.mem_of_getElem? h',rfl⟩);rw[List.filter_cons_of_pos (by simpa using jT),rV f hn.2 h'];rfl
theorem zV{α β:Type}:∀(l:List α)(m:List β)(j:Nat),(l.zip m).eraseIdx j=(l.eraseIdx j).zip (m.eraseIdx j)
 | [],m,j=>by simp
 | x::l,[],j=>by cases j<;>simp
 | x::l,y::m,0=>rfl
 | x::l,y::m,j+1=>by
   show (x,y)::(l.zip m).eraseIdx j=_;rw[zV l m j];rfl
def Nu{q:List (κ×K)}(hq:(q.map Prod.fst).Nodup)(hb:bs.Nodup){x y:(κ×K)×Nat}(Y:x∈q.zip bs)(hy:y∈q.zip bs):x.1.1=y.1.1↔x.2=y.2:=by
 obtain⟨i,hi⟩:=List.getElem?_of_mem Y;obtain⟨j,hj⟩:=List.getElem?_of_mem hy;rw[List.getElem?_zip_eq_some] at hi hj;constructor
 ·intro e
  have I:(q.map Prod.fst)[i]?=some x.1.1:=by rw[List.getElem?_map,hi.1];rfl
  have G:(q.map Prod.fst)[j]?=some x.1.1:=by rw[List.getElem?_map,hj.1,e];rfl
  obtain rfl:=mE hq I G;have:=hi.2.symm.trans hj.2;injection this
 ·intro e
  obtain rfl:=mE hb hi.2 (by rw[hj.2,e]);have:=hi.1.symm.trans hj.1;injection this with this;rw[this]
def Nv{q:List (κ×K)}{seen:Array Nat}{p:κ×K}{z:Nat}(hq:(q.map Prod.fst).Nodup)(hb:bs.Nodup)(hz:(p,z)∈q.zip bs):lD ((q.zip bs).filterMap λx=>if seen.contains x.2 then none else some x.1) p.1=(q.zip bs).filterMap λx=>if (seen.push z).contains x.2 then none else some x.1:=by
 unfold lD;rw[List.filter_filterMap];refine xw λx Y=>?_;have I:=Nu hq hb Y hz;rw[contains_push];cases hs:seen.contains x.2
 ·by_cases hxz:x.2=z
  ·have G:=I.2 hxz
   simp[hxz,G]
  ·have G:¬ x.1.1=p.1:=λe=>hxz (I.1 e)
   simp[hxz,G]
 ·simp
def St.Zv(h:St V w0 l w)(i:Nat)(hi:l[i]?=some (.o (lG ke b r q todo)))(ty:dC):(todo=[]∧(Instr.next ((r:K)) false ty).run P w=.ok (a_ #[aY false]) w)∨
 ∃k v O,(k,v)∈todo∧(k,v)∈q∧(Instr.next ((r:K)) false ty).run P w=.ok (a_ #[aY true,ke k,v]) O∧(Instr.entry ((r:K))).run P O=.ok (a_ #[ke k,v]) O∧St V w0 (l.set i (.o (lG ke b r q (lD todo k)))) O:=by
 obtain⟨U,hU,_⟩:=h.own.see i (iD hi);obtain⟨⟨hv,hvr,jT⟩,hn,es,c,s,c0,seen,hb,hp,z7,hr,hold,⟨Y5,Rx⟩,K1⟩:=(show lG ke b r q todo w U from hU);have fj:q.length=es.toList.length:=by have:=congrArg List.length hp;simpa using this.symm
 have QH:r<(w:Nat):=(Array.getElem?_eq_some_iff.1 hr).1;rcases run_next_at (P:=P) w ty r b s c0 seen es c hr hb hold Y5 with ⟨h0,eR⟩|⟨e,he,w1,Y6,eR⟩
 ·refine .inl ⟨?_,eR⟩
  rw[K1,List.filterMap_eq_nil_iff];intro x Y;have hxb:x.2∈es.toList.map (·.born):=(List.of_mem_zip Y).2;obtain⟨e,he,I⟩:=List.mem_map.1 hxb;have G:=all_seen es seen h0 e he;rw[<-I,aA (by simpa using G)]
 ·right
  obtain⟨K0,he2⟩:=mem_left he;obtain⟨j,hj,zQ⟩:=List.getElem_of_mem K0;have TW:j<q.length:=by omega
  have Up:es.toList[j].key=ke q[j].1∧es.toList[j].val=q[j].2:=by have L:=congrArg (λl=>l[j]?) hp;simp only[List.getElem?_map,List.getElem?_eq_getElem hj,List.getElem?_eq_getElem TW,df] at L;injection L with L;injection L with L h4;exact⟨L,h4⟩
  rw[zQ] at Up;have wv:w1.heap=w.heap:=by rcases Y6 with rfl|rfl<;>rfl
  have hzj:(q[j],e.born)∈q.zip (es.toList.map (·.born)):=by refine List.mem_of_getElem? (i:=j) ?_;rw[List.getElem?_zip_eq_some];exact⟨List.getElem?_eq_getElem TW,by rw[List.getElem?_map,List.getElem?_eq_getElem hj,zQ];rfl⟩
  have m9:q[j]∈todo:=by rw[K1];exact List.mem_filterMap.2 ⟨_,hzj,by rw[aB (by simpa using he2)]⟩
  have hS:St V w0 l w1:=by
   rcases Y6 with I|I
   ·rw[I];exact h
   ·rw[I];exact h.grow (Grow.refl _).drew
  have Qc:(setBlock w1 r (.mapIter (some b) s (seen.push e.born) c)).heap[r]?=some (.mapIter (some b) s (seen.push e.born) c):=heap_set w1 r _ (by rw[wv];exact QH);have hsb:(setBlock w1 r (.mapIter (some b) s (seen.push e.born) c)).heap[b]?=some (.map es c):=by show (w1.heap.setIfInBounds r _)[b]?=_;rw[Array.getElem?_setIfInBounds,aB (λe=>jT e.symm),wv];exact hb
  refine⟨q[j].1,q[j].2,setBlock w1 r (.mapIter (some b) s (seen.push e.born) c),m9,bF TW,by rw[eR,Up.1,Up.2],?_,?_⟩
  ·have:=run_entry_at (P:=P) _ r b s seen es c e Qc hsb K0 z7.1
   rw[Up.1,Up.2] at this;exact this
  ·have I:=St.step (a:=[.o (lG ke b r q todo)]) (a2:=[.o (lG ke b r q (lD todo q[j].1))]) (b:=l.eraseIdx i) (w:=w1) (O:=setBlock w1 r (.mapIter (some b) s (seen.push e.born) c)) (hS.front i hi) ⟨lG.framed _ _ _ _,trivial⟩ λU1 hM TY=>by
    obtain⟨U2,_,eD,_,k1,_⟩:=hM;have hjr:dM U1 w1 (setBlock w1 r (.mapIter (some b) s (seen.push e.born) c)):=(rE w1 r _).imp λx Y=>by rw[show x=r from Y];exact k1 r eD.1.2.1
    refine⟨⟨U1,λ_=>False,?_,trivial,λ_ h => .inl h,λ_ h=>h.elim,λ_ _ h=>h⟩,hjr⟩;refine⟨⟨k1 b eD.1.1,k1 r eD.1.2.1,jT⟩,hn,es,c,s,c,seen.push e.born,hsb,hp,z7,Qc,hold,⟨Rx,Rx⟩,?_⟩;rw[K1];exact Nv hn z7.1 hzj
   exact I.perm (iG hi).symm
def St.a3V(abk:oo P kt ke)(ht:P.underlying t=some (.map kt et))(h:St V w0 l w)(i:Nat)(hi:l[i]?=some (.o (lG ke b r q todo)))(k:κ):∃O,(∀ty,(Builtin.delete_ #[t,kt] ty #[.map (some b),ke k]).run P w=.ok (a_ #[]) O)∧St V w0 (l.set i (.o (lG ke b r (lD q k) (lD todo k)))) O:=by
 obtain⟨U,hU,_⟩:=h.own.see i (iD hi);obtain⟨⟨hv,hvr,jT⟩,hn,es,c,s,c0,seen,hb,hp,z7,hr,hold,⟨Y5,Rx⟩,K1⟩:=(show lG ke b r q todo w U from hU);have fj:q.length=es.toList.length:=by have:=congrArg List.length hp;simpa using this.symm
 have fS:b<(w:Nat):=(Array.getElem?_eq_some_iff.1 hb).1;obtain⟨x,Y,nh⟩:=abk.find w k es.toList 0 (q.map Prod.fst) (oY hp);have H:(getObj b).run P w=.ok (.map es c) w:=MapKept.run_getObj_map hb;rcases nh with ⟨I,rfl⟩|⟨j,e,I,G,rfl⟩
 ·have hq:lD q k=q:=by
   unfold lD;rw[List.filter_eq_self];intro p hp;simp only[ne_eq,decide_not,Bool.not_eq_eq_eq_not,Bool.not_true,decide_eq_false_iff_not];exact λe=>I (by rw[<-e];exact List.mem_map.2 ⟨p,hp,rfl⟩)
  have CQ:lD todo k=todo:=by
   unfold lD;rw[List.filter_eq_self];intro p hp;simp only[ne_eq,decide_not,Bool.not_eq_eq_eq_not,Bool.not_true,decide_eq_false_iff_not];rw[K1] at hp;obtain⟨y,hy,vr⟩:=List.mem_filterMap.1 hp;have hyq:=(List.of_mem_zip hy).1;have:y.1=p:=by
    split at vr;·cases vr
    ·injection vr
   exact λe=>I (by rw[<-e,<-this];exact List.mem_map.2 ⟨_,hyq,rfl⟩)
  rw[hq,CQ]
  have hw:setBlock w b (.map es c)=w:=by
   have:w.heap.setIfInBounds b (.map es c)=w.heap:=by
    apply Array.ext_getElem?;intro i;rw[Array.getElem?_setIfInBounds];split;·rename_i e;subst e;first|exact hb.symm|(rw[aA fS];exact hb.symm)
    ·rfl
   show ({ w with heap:=_ }:X)=w;rw[this]
  refine⟨w,λty=>?_,h.perm (by rw[rF hi])⟩
  have h6:(setObj b (.map es c)).run P w=.ok () (setBlock w b (.map es c)):=MapKept.run_setObj_map _ hb
  rw[hw] at h6
  simp[Builtin.delete_,run_underlying ht,H,abk.check w _ k,Y,Result.andThen,h6]
 ·have zQ:j<es.size:=by simpa using (List.getElem?_eq_some_iff.1 I).1
  have hq:q[j]?=some (k,e.val):=sQ hp I G;have Uq:lD q k=q.eraseIdx j:=rV Prod.fst hn hq;have hbj:(es.toList.map (·.born))[j]?=some e.born:=by rw[List.getElem?_map,I];rfl
  have hzj:(q.zip (es.toList.map (·.born)))[j]?=some ((k,e.val),e.born):=by rw[List.getElem?_zip_eq_some];exact⟨hq,hbj⟩
  have hzn:((q.zip (es.toList.map (·.born))).map λx=>x.1.1).Nodup:=by
   have e1:(q.zip (es.toList.map (·.born))).map (λx=>x.1.1)=q.map Prod.fst:=by rw[show (λx:(κ×K)×Nat=>x.1.1)=Prod.fst ∘ Prod.fst from rfl,<-List.map_map,List.map_fst_zip (by rw[bj];omega)]
   rw[e1];exact hn
  have Ve:lD todo k=((lD q k).zip ((es.eraseIdx j zQ).toList.map (·.born))).filterMap λx=>if seen.contains x.2 then none else some x.1:=by rw[Uq,Array.toList_eraseIdx,mF,<-zV,<-rV (λx:(κ×K)×Nat=>x.1.1) hzn hzj,K1];unfold lD;rw[List.filter_filterMap,List.filterMap_filter];refine xw λx _=>?_;cases seen.contains x.2<;>by_cases Y:x.1.1=k<;>simp[Y]
  have hsb:(setBlock w b (.map (es.eraseIdx j zQ) c)).heap[b]?=some (.map (es.eraseIdx j zQ) c):=heap_set w b _ fS;have Fw:(setBlock w b (.map (es.eraseIdx j zQ) c)).heap[r]?=some (.mapIter (some b) s seen c0):=by show (w.heap.setIfInBounds b _)[r]?=_;rw[Array.getElem?_setIfInBounds,aB jT];exact hr
  refine⟨setBlock w b (.map (es.eraseIdx j zQ) c),λty=>?_,?_⟩
  ·have h6:(setObj b (.map (es.eraseIdx j zQ) c)).run P w=.ok () (setBlock w b (.map (es.eraseIdx j zQ) c)):=MapKept.run_setObj_map _ hb
   have h7:es.eraseIdxIfInBounds j=es.eraseIdx j zQ:=by rw[Array.eraseIdxIfInBounds,dif_pos zQ]
   simp[Builtin.delete_,run_underlying ht,H,abk.check w _ k,Y,Result.andThen,h6,h7]
  ·have I:=St.step (a:=[.o (lG ke b r q todo)]) (a2:=[.o (lG ke b r (lD q k) (lD todo k))]) (b:=l.eraseIdx i) (w:=w) (O:=setBlock w b (.map (es.eraseIdx j zQ) c)) (h.front i hi) ⟨lG.framed _ _ _ _,trivial⟩ λU1 hM TY=>by
    obtain⟨U2,_,eD,_,k1,_⟩:=hM;have hjr:dM U1 w (setBlock w b (.map (es.eraseIdx j zQ) c)):=(rE w b _).imp λx Y=>by rw[show x=b from Y];exact k1 b eD.1.1
    refine⟨⟨U1,λ_=>False,?_,trivial,λ_ h => .inl h,λ_ h=>h.elim,λ_ _ h=>h⟩,hjr⟩;refine⟨⟨k1 b eD.1.1,k1 r eD.1.2.1,jT⟩,?_,es.eraseIdx j zQ,c,s,c0,seen,hsb,?_,z7.erase zQ,Fw,λx Y=>?_,⟨Y5,Rx⟩,Ve⟩;·rw[Uq];exact hn.sublist ((List.eraseIdx_sublist q j).map Prod.fst)
    ·rw[Uq,Array.toList_eraseIdx,mF,mF,hp]
    ·rw[Array.toList_eraseIdx] at Y
     exact hold x (cY Y)
   exact I.perm (iG hi).symm
def BI(b r:Nat)(w:X):Nat:=match w.heap[b]?,w.heap[r]? with
 | some (.map es _),some (.mapIter _ _ seen _)=>((es.toList.map (·.born)).filter λz => !seen.contains z).length
 | _,_=>0
theorem Dq(seen:Array Nat):∀(q:List (κ×K))(bs:aQ),q.length=bs.length->((q.zip bs).filterMap λx=>if seen.contains x.2 then none else some x.1).length=(bs.filter λz => !seen.contains z).length
 | [],[],_=>rfl
 | p::q,z::bs,h=>by
   have ih:=Dq seen q bs (by simpa using h);rw[List.zip_cons_cons,List.filterMap_cons,List.filter_cons];cases E:seen.contains z
   ·simp only[Bool.false_eq_true,if_false,Bool.not_false,if_true,bD]
    rw[ih]
   ·simp only[if_true,Bool.not_true,Bool.false_eq_true,if_false]
    exact ih
def St.Nw(h:St V w0 l w)(i:Nat)(hi:l[i]?=some (.o (lG ke b r q todo))):BI b r w=todo.length:=by
 obtain⟨U,hU,_⟩:=h.own.see i (iD hi);obtain⟨_,hn,es,c,s,c0,seen,hb,hp,z7,hr,hold,_,K1⟩:=(show lG ke b r q todo w U from hU);have fj:q.length=es.toList.length:=by have:=congrArg List.length hp;simpa using this.symm
 unfold BI;rw[hb,hr,K1];exact (Dq seen q _ (by rw[bj];exact fj)).symm
def St.Nx(h:St V w0 l w)(i:Nat)(hi:l[i]?=some (.o (lG ke b r q todo))):(q.map Prod.fst).Nodup:=by obtain⟨U,hU,_⟩:=h.own.see i (iD hi);exact (show lG ke b r q todo w U from hU).2.1
def zW{α β:Type}{l:List (α×β)}(hn:(l.map Prod.fst).Nodup){x y:α×β}(Y:x∈l)(hy:y∈l)(e:x.1=y.1):x=y:=by obtain⟨i,hi⟩:=List.getElem?_of_mem Y;obtain⟨j,hj⟩:=List.getElem?_of_mem hy;obtain rfl:=mE hn (i:=i) (j:=j) (a:=x.1) (by rw[List.getElem?_map,hi];rfl) (by rw[List.getElem?_map,hj,e];rfl);rw[hi] at hj;injection hj
def Kx{q:List (κ×K)}{k:κ}(h:(k,v)∈q):(lD q k).length<q.length:=by unfold lD;refine Nat.lt_of_le_of_ne (c_ _ _) λe=>?_;have:=List.length_filter_eq_length_iff.1 e _ h;simp at this
def St.rend(h:St V w0 l w)(i:Nat)(hi:l[i]?=some (.o (lG ke b r q todo))):St V w0 (l.set i (.o (eI ke b q))) w:=by
 have I:=St.cls (a:=[.o (lG ke b r q todo)]) (h.front i hi) (eI.framed b q) λU hM=>by obtain⟨U',I,G⟩:=nV hM 0 rfl;obtain⟨⟨hv,_⟩,hn,es,c,_,_,_,hb,hp,z7,_⟩:=(show lG ke b r q todo w U' from I);exact⟨G b hv,hn,es,c,hb,hp,z7⟩
 exact I.perm (iG hi).symm
end
section
def lH(hw:bN o (yielded ops a.tmps)=true)(it:Operand)(ho:o.op=.next it false)(hit:a.eval it=(r:K))(eR:(Instr.next ((r:K)) false o.type).run P w=.ok v O)(h:wpList P ops abo rest (a.put o.dst v) O):wpList P ops abo (o::rest) a w:=ou hw (by simp[execOp,ho,hit,eR,Result.andThen]) h
end
end Go.Hop
end
end
section
open Go.Proofs.YtpeepcmdehhbgaaGreatDoor (Dl)
open Go.Proofs.YtpeepcmdehhbgaaGreatDoor.abk (Sm)
variable{q:Sm}{l:List Dl}{n k v:Nat}{w:X}{V:aV}{x:aR}
namespace Go.Proofs.YtpeepcmdehhbgaaGreatDoor.abk
open RowKit Hop
def Ry:pV W 225 9 42 .u64:=⟨Tryz.underlying225,cW,Tryz.underlying42,λw=>by kernel_rfl⟩
def o6:Nat:=18446744073709551615
def fq(q:Sm)(x:aR):Option Int:=(lk q x).map λv=>(v:Int)
def BJ(q:Sm)(x:aR):(fq q x).getD 0=((gt q x:Nat):Int):=by unfold fq gt;cases lk q x<;>rfl
def BK(q:Sm)(x:aR):(fq q x).isSome=(lk q x).isSome:=by unfold fq;cases lk q x<;>rfl
def VS(q:Sm)(x:aR)(v:Nat):(λy=>if y=x then some (v:Int) else fq q y)=fq (put q x v):=by funext y;unfold fq;rw[BB q];split<;>rfl
structure Right(q:Sm):Prop where
 pB:Rh q
 num:∀d∈q,d.2<=o6
 txt:∀d∈q,d.1.size<=dG
theorem Right.gt{q:Sm}(h:Right q)(x:aR):gt q x<=o6:=by
 unfold Proofs.YtpeepcmdehhbgaaGreatDoor.abk.gt;cases Y:lk q x with
 | none=>exact bo _
 | some v=>exact h.num _ (xh Y)
theorem Right.put{q:Sm}(h:Right q){x:aR}{v:Nat}(Y:x.size<=dG)(hv:v<=o6):Right (put q x v):=by
 refine⟨BD h.pB x v,λd hd=>?_,λd hd=>?_⟩
 ·have:=F_ (BD h.pB x v) hd
  rw[BB q] at this;split at this;·injection this with this;rw[<-this];exact hv
  ·exact h.num _ (xh this)
 ·have:=F_ (BD h.pB x v) hd
  rw[BB q] at this;split at this;·rename_i e;rw[e];exact Y
  ·exact h.txt _ (xh this)
def zX:Right []:=⟨List.Pairwise.nil,by simp,by simp⟩
def Ds(w:X)(b:Nat)(q:Sm):Prop:=SMap W 9 42 .u64 w b q.length (fq q)
def gT(s:Nat)(q:Sm):dW:=λw V=>V s∧Right q∧∃b,V b∧b≠s∧eJ w s 227 #[.map (some b)]∧Ds w b q
def gT.framed(s:Nat)(q:Sm):eu (gT s q):=λw O V h N=>by obtain⟨I,G,b,L,h4,h5,h6⟩:=h;exact⟨I,G,b,L,h4,(N s I).trans h5,h6.keep (N b L)⟩
def gT.wide{s:Nat}{V':aV}(h:gT s q w V)(hV:∀b,V b->V' b):gT s q w V':=by obtain⟨I,G,b,L,h4⟩:=h;exact⟨hV s I,G,b,hV b L,h4⟩
def oS(w:X):dz W 115 #[] w λe O=>∃s,e=b5 (((s:Nat):K))∧gT s [] O (New w O)∧Grow w O:=by
 have QK:=@run_makeMap W;go_in;go_wp2;go_ret;have eD:Grow w (w.alloc (.map #[] 0)):=(Below.refl _ w).alloc (bh _) _;have fk:Grow (w.alloc (.map #[] 0)) ((w.alloc (.map #[] 0)).alloc (.cells #[.map (some (w:Nat))] 227)):=(Below.refl _ _).alloc (bh _) _;refine⟨_,rfl,⟨⟨by simp,by simp⟩,zX,(w:Nat),⟨bh _,by simp;omega⟩,by simp,?_,?_⟩,eD.trans fk⟩
 ·have:=eJ.made (w.alloc (.map #[] 0)) 227 #[.map (some (w:Nat))]
  rwa [fp] at this
 ·have:=(SMap.made (P:=W) (k:=9) (e:=42) (qe := .u64) w).grow fk
  exact this.imp λ_ _=>rfl
def qG(w:X)(s:Nat)(q:Sm)(V:aV)(h:gT s q w V)(x:aR)(Y:x.size<=dG):dz W 173 #[s,aX x] w λe O=>e=b5 (ae ah ((gt q x:Nat):Int))∧w=O:=by obtain⟨I,G,b,L,h4,hB,hM⟩:=h;have c0:=hB.cell 0;have hl:=SMap.II Ry hM x Y;rw[BJ] at hl;go_in;go_wp2;go_ret;exact⟨rfl,rfl⟩
def Dt(w:X)(a b:Nat)(ha:a<=o6)(hb:b<=o6):dz W 297 #[ae ah a,ae ah b] w λe O=>e=b5 (ae ah ((if a+b<=o6 then a+b else o6:Nat):Int))∧w=O:=by
 unfold o6 at *;have hs:IntKind.u64.wrap ((18446744073709551615:Int)-(b:Int))=((18446744073709551615-b:Nat):Int):=by rw[IntKind.wrap_u64];omega
 by_cases h:a+b<=18446744073709551615
 ·rw[aA h]
  have TS:IntKind.u64.wrap ((a:Int)+(b:Int))=((a+b:Nat):Int):=by rw[IntKind.wrap_u64];omega
  have hd:decide (18446744073709551615-b<a)=false:=aD ap;go_in;go_wp2;go_ret;exact⟨rfl,rfl⟩
 ·rw[aB h]
  have hd:decide (18446744073709551615-b<a)=true:=aC ap;go_in;go_wp2;go_ret;exact⟨rfl,rfl⟩
def add(q:Sm)(l:List Dl):Sm:=l.foldl (λq d=>put q d.1 (gt q d.1+d.2)) q
def add_nil(q:Sm):add q []=q:=rfl
def lJ(q:Sm)(d:Dl)(l:List Dl):add q (d::l)=add (put q d.1 (gt q d.1+d.2)) l:=rfl
def rW(q:Sm)(l m:List Dl):add q (l++m)=add (add q l) m:=List.foldl_append
def add_one(q:Sm)(l:List Dl)(d:Dl):add q (l++[d])=put (add q l) d.1 (gt (add q l) d.1+d.2):=by rw[rW];rfl
def Qi(l:List Dl)(x:aR):Nat:=((l.filter λd=>decide (d.1=x)).map (·.2)).sum
def sW(d:Dl)(l:List Dl)(x:aR):Qi (d::l) x=(if d.1=x then d.2 else 0)+Qi l x:=by unfold Qi;by_cases h:d.1=x<;>simp[h]
def xy(q:Sm)(x:aR)(v:Nat)(y:aR):gt (put q x v) y=if y=x then v else gt q y:=by unfold gt;rw[BB];split<;>rfl
theorem G9(q:Sm)(l:List Dl)(x:aR):gt (add q l) x=gt q x+Qi l x:=by
 induction l generalizing q with
 | nil=>rfl
 | cons d l ih=>
   rw[lJ,ih,xy,sW];by_cases h:x=d.1;·rw[aA h,aA h.symm,h];omega
   ·rw[aB h,aB (λe=>h e.symm)];omega
def i7(q mo:Sm):List Dl->Bool
 | []=>true
 | d::l=>decide (gt mo d.1+d.2+gt q d.1<=o6)&&i7 q (put mo d.1 (gt mo d.1+d.2)) l
theorem p9(q:Sm)(l:List Dl)(d:Dl):∀mo,i7 q mo (l++[d])=(i7 q mo l&&decide (gt (add mo l) d.1+d.2+gt q d.1<=o6)):=by
 induction l with
 | nil=>intro mo;rw[ch,i7,i7,i7,add_nil,Bool.and_true,Bool.true_and]
 | cons a l ih=>intro mo;rw[cD,i7,i7,ih,lJ,Bool.and_assoc]
theorem Ny(q:Sm)(l:List Dl):∀mo,i7 q mo l=true↔∀d∈l,gt q d.1+gt mo d.1+Qi l d.1<=o6:=by
 induction l with
 | nil=>intro mo;simp[i7]
 | cons a l ih=>
   intro mo;rw[i7,bU,decide_eq_true_eq,ih];have key:∀x:aR,gt (put mo a.1 (gt mo a.1+a.2)) x+Qi l x=gt mo x+Qi (a::l) x:=λx=>by
    rw[xy,sW];by_cases h:x=a.1;·rw[aA h,aA h.symm,h];omega
    ·rw[aB h,aB (λe=>h e.symm)];omega
   constructor
   ·rintro ⟨I,G⟩ d hd
    rcases List.mem_cons.1 hd with rfl|hd
    ·by_cases he:∃e∈l,e.1=d.1
     ·obtain⟨e,he,hed⟩:=he
      have:=G e he;rw[hed] at this;have:=key d.1;omega
     ·have h0:Qi l d.1=0:=by
       unfold Qi;have:l.filter (λe=>decide (e.1=d.1))=[]:=List.filter_eq_nil_iff.2 λe hel h=>he ⟨e,hel,of_decide_eq_true h⟩;rw[this];rfl
      rw[sW,aA rfl,h0];omega
    ·have:=G d hd
     have:=key d.1;omega
   ·intro h
    refine⟨?_,λd hd=>?_⟩
    ·have:=h a cj
     rw[sW,aA rfl] at this;omega
    ·have:=h d (bR _ hd)
     have:=key d.1;omega
theorem Nz{mo:Sm}:i7 q mo l=true->(∀x,gt mo x<=o6)->∀x,gt (add mo l) x<=o6:=by
 induction l generalizing mo with
 | nil=>intro _ h;exact h
 | cons a l ih=>
   intro h hm;rw[i7,bU,decide_eq_true_eq] at h;rw[lJ];refine ih h.2 λx=>?_;rw[xy];split;·omega
   ·exact hm x
theorem zY:Right q->(∀d∈l,d.1.size<=dG)->(∀k,k<=l.length->∀x,gt (add q (l.take k)) x<=o6)->Right (add q l):=by
 induction l generalizing q with
 | nil=>intro h _ _;exact h
 | cons a l ih=>
   intro h ht hm;rw[lJ];have I:=hm 1 (by simp) a.1;rw[cG,List.take_zero,lJ,add_nil,xy,aA rfl] at I;refine ih (h.put (ht a cj) I) (λd hd=>ht d (bR _ hd)) λk N x=>?_;have:=hm (k+1) (by simp;omega) x;rwa [cG,lJ] at this
theorem nA:∀(l:List Dl)(q:Sm),(add q l).length<=q.length+l.length:=by
 intro l;induction l with
 | nil=>intro q;exact bh _
 | cons a l ih=>
   intro q;have I:=ih (put q a.1 (gt q a.1+a.2));have G:=xi q a.1 (gt q a.1+a.2);rw[lJ,bD];split at G<;>omega
def news(q mo:Sm):Nat:=(mo.filter λd=>(lk q d.1).isNone).length
def iV(q:Sm)(l:List Dl):Int:=if i7 q [] l then (if q.length+news q (add [] l) > 16 then 24 else 0) else 25
theorem pc{mo:Sm}(h:i7 q mo l=true)(k:Nat):i7 q mo (l.take k)=true:=by
 induction l generalizing mo k with
 | nil=>simp[i7]
 | cons a l ih=>
   cases k with
   | zero=>rfl
   | succ k=>
     rw[i7,bU] at h;rw[cG,i7,bU];exact⟨h.1,ih h.2 k⟩
def Ga(ht:∀d∈l,d.1.size<=dG)(h:i7 q [] l=true):Right (add [] l):=zY zX ht λk _=>Nz (pc h k) λx=>bo _
theorem Gb(N:k<l.length)(h:o6<gt (add [] (l.take k)) l[k].1+l[k].2+gt q l[k].1):i7 q [] l=false:=by
 cases ho:i7 q [] l with
 | false=>rfl
 | true=>
   have:=pc ho (k+1);rw[br N,p9,bU,decide_eq_true_eq] at this;omega
theorem Gc{mo:Sm}(hs:Rh mo){p:Dl->Bool}{left:ByteArray->Bool}(Y:lk mo x=some v)(hl:left x=true):(mo.filter λd=>p d&&!(left d.1&&decide (d.1≠x))).length=(mo.filter λd=>p d&&!left d.1).length+(if p (x,v) then 1 else 0):=by
 induction mo with
 | nil=>cases Y
 | cons a mo ih=>
   have vQ:=List.pairwise_cons.1 hs;rw[iU] at Y;by_cases ha:a.1=x
   ·rw[aA ha] at Y
    injection Y with Y;have hax:a=(x,v):=Prod.ext ha Y;have rJ:(mo.filter λd=>p d&&!(left d.1&&decide (d.1≠x)))=mo.filter λd=>p d&&!left d.1:=by
     refine List.filter_congr λd hd=>?_;have jT:d.1≠x:=λe=>by have:=vQ.1 d hd;rw[e,ha,jF] at this;cases this
     simp[jT]
    subst hax;rw[List.filter_cons,List.filter_cons,rJ];simp only[hl,ne_eq,not_true_eq_false,decide_false,Bool.and_false,Bool.not_false,Bool.and_true,Bool.not_true];split<;>simp_all
   ·rw[aB ha] at Y
    rw[List.filter_cons,List.filter_cons];have:=ih vQ.2 Y;simp only[ne_eq,ha,not_false_eq_true,decide_true,Bool.and_true];split;·rw[bD,bD,this];omega
    ·exact this
def NA{A:aU}{q:List Dl}(h:In w V 2 A n (fm q))(N:k<n):∃(ad:dA)(hq:k<q.length),A=some ad∧(∀w1,Grow w w1->w1.cell? (ad.add (k*2))=some (aX q[k].1))∧∀w1,Grow w w1->w1.cell? ⟨(ad.add (k*2)).block,(ad.add (k*2)).off+1,none⟩=some (ae ah ((q[k].2:Nat):Int)):=by obtain⟨ad,hq,e,_,hb,e0,e12⟩:=In.mr (cells:=mN) h ap iH N;exact⟨ad,hq,e,λw1 H=>(H.cell (by rw[block_add];exact hb)).trans (e0 _ rfl),λw1 H=>(H.cell (p:=⟨(ad.add (k*2)).block,(ad.add (k*2)).off+1,none⟩) (show (ad.add (k*2)).block<_ by rw[block_add];exact hb)).trans (e12 0 _ rfl)⟩
def a3W(h:n<=o6):(Lit.int .u64 (n:Int)).wf=true:=by unfold o6 at h;simp[Lit.wf,IntKind.min,IntKind.max,IntKind.signed,IntKind.bits];omega
def Du{b:Nat}(h:Ds w b q)(Y:x.size<=dG)(hv:v<=o6)(hn:q.length<dG):∃O,(Instr.mapUpdate 225 (.map (some b)) (aX x) (ae ah v)).run W w=.ok () O∧Ds O b (Proofs.YtpeepcmdehhbgaaGreatDoor.abk.put q x v)∧dM (λc=>c=b) w O:=by obtain⟨O,I,G,L⟩:=SMap.put Ry h x v Y (a3W hv) hn;refine⟨O,I,?_,L⟩;unfold Ds;rw[xi,<-VS,<-BK];exact G
def IX(h:n<=18446744073709551615):IntKind.u64.wrap ((18446744073709551615:Int)-(n:Int))=((18446744073709551615-n:Nat):Int):=by rw[IntKind.wrap_u64];omega
def Rz{m:Nat}(h:m+n<=18446744073709551615):IntKind.u64.wrap ((m:Int)+(n:Int))=((m+n:Nat):Int):=by rw[IntKind.wrap_u64];omega
def RA(w:X)(s:Nat)(q:Sm)(V:aV)(h:gT s q w V)(A:aU)(n c:Nat)(l:List Dl)(D:aV)(hl:In w D 2 A n (fm l))(hd:∀d∈l,d.1.size<=dG∧d.2<=o6)(hn:n<=1048576)(hq:q.length<=1048576):dz W 296 #[s,Z A n c] w λe O=>e=b5 (J (iV q l))∧Grow w O:=by
 have rA:l.length=n:=by have:=hl.1;rw[ka] at this;omega
 obtain⟨I,G,b,L,h4,uW,uY⟩:=h;obtain⟨abl,HE⟩:=az (iV q l:Int);rw[<-HE.out];have QK:=@run_makeMap W;have eD:Grow w (w.alloc (.map #[] 0)):=(Below.refl _ w).alloc (bh _) _;have ry:Ds (w.alloc (.map #[] 0)) (w:Nat) []:=(SMap.made (P:=W) (k:=9) (e:=42) (qe := .u64) w).imp λ_ _=>rfl;go_in;go_wp2_with fail;obtain⟨m,HM⟩:=az ((w:Nat):Nat);rw[<-HM.out] at ry ⊢;go_loopw [16] (λi wr=>∃k:Nat,k<=n∧i=J k∧i7 q [] (l.take k)=true∧Ds wr m (add [] (l.take k))∧Grow w wr) (λi _=>n-(intOf i).toNat);case atStart=>exact⟨0,by omega,rfl,rfl,ry,eD⟩
 case round=>
  clear ry eD;obtain⟨k,oL,rfl,gC,hm,jU⟩:=hrel;have YZ:=Ga (λd Iv=>(hd d (bW Iv)).1) gC;have hB:=uW.grow jU;by_cases N:k<n
  ·have hkt:decide ((k:Int)<(n:Int))=true:=aC ap
   obtain⟨ad,T_,rfl,Fx,K0⟩:=NA (hl.grow jU) N;have QL:=hd _ (bF T_);have oI:add [] (l.take (k+1))=put (add [] (l.take k)) l[k].1 (gt (add [] (l.take k)) l[k].1+l[k].2):=by rw[br T_,add_one]
   have Ky:i7 q [] (l.take (k+1))=(i7 q [] (l.take k)&&decide (gt (add [] (l.take k)) l[k].1+l[k].2+gt q l[k].1<=o6)):=by rw[br T_,p9]
   have Bc:o6<gt (add [] (l.take k)) l[k].1+l[k].2+gt q l[k].1->abl=25:=λh=>by rw[HE.out];unfold iV;rw[Gb T_ h];rfl
   have fj:(add [] (l.take k)).length<=1048576:=by have:=nA (l.take k) [];rw[bn] at this;simp only[cx] at this;omega
   have MA:=YZ.gt l[k].1;have Uq:=G.gt l[k].1;generalize l[k]=dk at Fx K0 QL oI Ky Bc MA Uq;have f0:=Fx _ (Grow.refl _);have f1:=K0 _ (Grow.refl _);have fu:Grow wr (wr.alloc (.cells #[aX dk.1,ae ah dk.2] 147)):=(Below.refl _ wr).alloc (bh _) _;have Kz:=eJ.made wr 147 #[aX dk.1,ae ah dk.2];have zE:=hm.grow fu;have lS:=hB.grow fu;obtain⟨gm,HGM⟩:=az (gt (add [] (l.take k)) dk.1:Nat);obtain⟨gq,Zw⟩:=az (gt q dk.1:Nat);have Fv:=SMap.II Ry zE dk.1 QL.1;rw[BJ,<-HGM.out] at Fv;have k0:=Kz.cell 0;obtain⟨wa,HA⟩:=az (wr.alloc (.cells #[aX dk.1,ae ah dk.2] 147):X);obtain⟨x,HX⟩:=az ((wr:Nat):Nat);have uv:Below (w:Nat) w wa:=HA.out▸eQ jU fu jU.size;have pL:eJ wa x 147 #[aX dk.1,ae ah dk.2]:=by rw[HA.out,HX.out];exact Kz
   have hB:eJ wa s 227 #[.map (some b)]:=HA.out▸lS;have hma:Ds wa m (add [] (l.take k)):=HA.out▸zE;have wK:∀w1,Grow wa w1->(Instr.lookup 225 (.map (some b)) (aX dk.1) false).run W w1=.ok (ae ah gq) w1:=λw1 H=>by have:=SMap.II Ry (uY.grow (eQ uv H uv.size)) dk.1 QL.1;rwa [BJ,<-Zw.out] at this
   rw[<-HGM.out] at oI Ky Bc MA;rw[<-Zw.out] at Ky Bc Uq;unfold o6 at Ky Bc MA Uq QL;have QI:=IX MA;have z6:=IX Uq;clear lS Kz hm zE fu;by_cases yQ:18446744073709551615-gm<dk.2
   ·have a3X:decide (18446744073709551615-gm<dk.2)=true:=aC yQ
    obtain rfl:abl=25:=Bc ap;go_wp2_with fail;rw[<-HA.out,<-HX.out];clear Fv k0;have c0:=λw1(H:Grow _ w1)=>pL.grow H |>.cell 1
    refine fh ?_;intro w1 H;clear c0;clear wK;go_wp2;go_ret;exact⟨rfl,eQ uv H uv.size⟩
   ·have a3X:decide (18446744073709551615-gm<dk.2)=false:=aD yQ
    have Mb:=Rz (show gm+dk.2<=18446744073709551615 by omega);by_cases pN:18446744073709551615-gq<gm+dk.2
    ·have a3Y:decide (18446744073709551615-gq<gm+dk.2)=true:=aC pN
     obtain rfl:abl=25:=Bc ap;go_wp2_with fail;rw[<-HA.out,<-HX.out];clear Fv k0;have c0:=λw1(H:Grow _ w1)=>pL.grow H |>.cell 1
     have c1:=λw1(H:Grow _ w1)=>hB.grow H |>.cell 0
     have c2:=λw1(H:Grow _ w1)=>pL.grow H |>.cell 0
     have c3:=λw1(H:Grow _ w1)=>wK w1 H;refine fh ?_;intro w1 H;clear c0 c1 c2 c3;clear wK;go_wp2;go_ret;exact⟨rfl,eQ uv H uv.size⟩
    ·have a3Y:decide (18446744073709551615-gq<gm+dk.2)=false:=aD pN
     rw[aC (show gm+dk.2+gq<=18446744073709551615 by omega),gC] at Ky;go_wp2_with fail;rw[<-HA.out,<-HX.out];clear Fv k0;have c0:=λw1(H:Grow _ w1)=>pL.grow H |>.cell 1
     have c1:=λw1(H:Grow _ w1)=>hB.grow H |>.cell 0
     have c2:=λw1(H:Grow _ w1)=>pL.grow H |>.cell 0
     have c3:=λw1(H:Grow _ w1)=>wK w1 H;refine fh ?_;intro w1 H;clear c0 c1 c2 c3;clear wK;obtain⟨w5,Cx,Zx,ra⟩:=Du (hma.grow H) QL.1 (show gm+dk.2<=o6 by unfold o6;omega) (by unfold dG;omega);have k0:=(pL.grow H).cell 0;have k1:=(pL.grow H).cell 1;rw[<-oI] at Zx;rw[Int.natCast_add] at Cx;have ng:Grow w w5:=Below.trans (eQ uv H uv.size) (ra.below (B:=(w:Nat)) (λb hb=>by rw[hb,HM.out];exact bh _) (bB uv.size H.size));clear hma ra pL hB H;go_wp2_with fail;go_roundw;case rel=>exact⟨k+1,by omega,by go_num,Ky,Zx,ng⟩
     case measure=>simp[intOf];omega
  ·obtain rfl:k=n:=by omega
   have hkt:decide ((k:Int)<(k:Int))=false:=aD ap;rw[bH ap] at gC hm YZ;have fj:=λty=>SMap.len (uY.grow jU) Ry ty;have c0:=hB.cell 0;obtain⟨w2,eR,⟨left,Fw,Qj⟩,fk,TP⟩:=SMap.range Ry hm;have Y_:(add [] l).length<=1048576:=by have:=nA l [];simp only[cx] at this;omega
   have hE:abl=if q.length+news q (add [] l) > 16 then 24 else 0:=by rw[HE.out];unfold iV;rw[aA gC]
   obtain⟨mo,HMO⟩:=az (add [] l);rw[<-HMO.out] at Fw Qj YZ hE Y_;have uw:=eQ jU fk jU.size;obtain⟨r,HR⟩:=az ((wr:Nat):Nat);have Y7:(w:Nat)<=r:=by rw[HR.out];exact jU.size
   clear hm QK;go_wp2_with fail;rw[<-HR.out] at Fw ⊢;have o5:(mo.filter λd=>(lk q d.1).isNone&&!left d.1).length=0:=by
    rw[List.length_eq_zero_iff,List.filter_eq_nil_iff];intro d Iv;have I:(lk mo d.1).isSome=true:=by rw[F_ YZ.pB Iv];rfl
    rw[Qj d.1 (YZ.txt d Iv),BK,I];simp
   go_loopw [9] (λnv wz=>∃(left:ByteArray->Bool)(cnt:Nat),nv=J ((q.length+(mo.filter λd=>(lk q d.1).isNone&&!left d.1).length:Nat):Int)∧jb W 9 42 .u64 wz m r mo.length (fq mo) left cnt∧Grow w wz) (λ_ wz=>wz.rangeLeft m r);case atStart=>exact⟨left,_,by rw[o5];rfl,Fw,uw⟩
   case round=>
    clear Fw Qj o5 fk uw fj c0;obtain⟨left,cnt,rfl,Fw,uw⟩:=hrel;have c0:=(uW.grow uw).cell 0;rcases Fw.next Ry 0 with ⟨h0,hl0,eR⟩|⟨x,v,w3,cnt3,QF,hlx,Y8,hwv,eR,VT,fS,mz,hen⟩
    ·have Iu:(mo.filter λd=>(lk q d.1).isNone&&!left d.1).length=news q mo:=by
      unfold news;congr 1;refine List.filter_congr λd _=>?_;rw[hl0];simp
     rw[Iu]
     generalize q.length+news q mo=abm at hE
     by_cases hT:abm > 16
     ·rw[aA hT] at hE
      subst hE
      have hT':decide ((16:Int)<(abm:Int))=true:=aC ap
      go_wp2
      go_ret
      exact⟨rfl,uw⟩
     ·rw[aB hT] at hE
      subst hE
      have hT':decide ((16:Int)<(abm:Int))=false:=aD ap
      go_wp2
      go_ret
      exact⟨rfl,uw⟩
    ·have Zy:lk mo x=some v.toNat∨True := .inr trivial
     obtain⟨v',hv'⟩:∃v',lk mo x=some v':=by
      unfold fq at Y8;cases hl:lk mo x with
      | none=>rw[hl] at Y8;cases Y8
      | some v'=>exact⟨v',rfl⟩
     have iB:=Gc YZ.pB (p:=λd=>(lk q d.1).isNone) hv' hlx;dsimp only at iB;have ib:Grow w w3:=Below.trans uw (mz.below (B:=(w:Nat)) (λb hb=>by rw[hb];exact Y7) uw.size);have c3:=(uW.grow ib).cell 0;have Cv:=SMap.look Ry (uY.grow ib) x QF;rw[BK] at Cv;have hcn:(mo.filter λd=>(lk q d.1).isNone&&!left d.1).length<=1048576:=bB (c_ _ _) Y_;have Ur:w3.rangeLeft m r<wr.rangeLeft m r:=by rw[VT.left_eq,Fw.left_eq];exact fS
     by_cases kT:(lk q x).isSome=true
     ·have hN:(lk q x).isNone=false:=by cases My:lk q x with
       | none=>rw[My] at kT;cases kT
       | some _=>rfl
      rw[hN] at iB
      rw[kT] at Cv
      simp only[Bool.false_eq_true,if_false,Nat.add_zero] at iB
      clear Y8 Zy hwv hv' kT hN uw c0
      go_wp2_with fail
      go_roundw
      case rel=>exact⟨_,cnt3,by rw[iB],VT,ib⟩
      case measure=>exact Ur
     ·have RB:(lk q x).isSome=false:=by simpa using kT
      have hN:(lk q x).isNone=true:=by cases My:lk q x with
       | none=>rfl
       | some _=>rw[My] at RB;cases RB
      rw[hN] at iB;rw[RB] at Cv;simp only[if_true] at iB;generalize (mo.filter λd=>(lk q d.1).isNone&&!left d.1).length=C at iB hcn ⊢;clear Y8 Zy hwv hv' kT RB hN uw c0;go_wp2_with fail;go_roundw;case rel=>exact⟨_,cnt3,by rw[iB];go_num,VT,ib⟩
      case measure=>exact Ur
def nj(q:Sm)(l:List Dl):Sm:=if iV q l=0 then add q l else q
def IY(h:iV q l=0):i7 q [] l=true:=by
 unfold iV at h;split at h;·assumption
 ·cases h
def RD(h:i7 q [] l=true)(N:k<l.length):gt (add q (l.take k)) l[k].1+l[k].2<=o6:=by have I:=pc h (k+1);rw[br N,p9,bU,decide_eq_true_eq] at I;have G:=I.2;rw[G9] at G ⊢;have:gt ([]:Sm) l[k].1=0:=rfl;omega
def NB(hq:Right q)(ht:∀d∈l,d.1.size<=dG)(h:i7 q [] l=true):Right (add q l):=by
 refine zY hq ht λk N x=>?_;rw[G9];have I:=(Ny q (l.take k) []).1 (pc h k);by_cases he:∃d∈l.take k,d.1=x
 ·obtain⟨d,hd,rfl⟩:=he
  have:=I d hd;omega
 ·have h0:Qi (l.take k) x=0:=by
   unfold Qi;have:(l.take k).filter (λe=>decide (e.1=x))=[]:=List.filter_eq_nil_iff.2 λe hel h=>he ⟨e,hel,of_decide_eq_true h⟩;rw[this];rfl
  rw[h0]
  exact hq.gt x
def sX(w:X)(s:Nat)(q:Sm)(V:aV)(h:gT s q w V)(hV:∀b,V b->b<(w:Nat))(A:aU)(n c:Nat)(l:List Dl)(D:aV)(hl:In w D 2 A n (fm l))(kV:∀b,D b->¬ V b)(hd:∀d∈l,d.1.size<=dG∧d.2<=o6)(hn:n<=1048576)(hq:q.length<=1048576):dz W 235 #[s,Z A n c] w λe O=>e=b5 (J (iV q l))∧gT s (nj q l) O (iY V w O)∧dM V w O:=by
 have rA:l.length=n:=by have:=hl.1;rw[ka] at this;omega
 have hm:=RA w s q V h A n c l D hl hd hn hq;have ej:=λw1(H:Grow w w1)=>gT.framed s q w w1 V h λb hb=>H.block b (hV b hb);obtain⟨I,G,b,L,h4,uW,uY⟩:=h;have k297:∀(vs:aP)(w:X),(callFunc 297 vs).run W w=.ok (.enter 297 vs) w:=λvs w=>by go_simp
 obtain⟨abl,HE⟩:=az (iV q l:Int);have Mc:abl=0->nj q l=add q l:=λh=>by unfold nj;rw[<-HE.out,aA h]
 have Md:abl≠0->nj q l=q:=λh=>by unfold nj;rw[<-HE.out,aB h]
 rw[<-HE.out] at hm ⊢;by_cases he:abl=0
 ·have gC:=IY (HE.out.symm.trans he)
  rw[Mc he];subst he;go_in;go_wp2_with fail;refine hm.mono ?_;rintro e w1 ⟨rfl,eD⟩;clear hm ej Mc Md;have U8:=hl.grow eD;have hM1:=uY.grow eD;have ky:=uW.grow eD;go_wp2_with fail;go_loopw [16] (λi wr=>∃k:Nat,k<=n∧i=J k∧Ds wr b (add q (l.take k))∧dM (λc=>c=b) w1 wr) (λi _=>n-(intOf i).toNat);case atStart=>exact⟨0,by omega,rfl,hM1,dM.dK (Grow.refl _)⟩
  case round=>
   clear hM1;obtain⟨k,oL,rfl,hM,hj⟩:=hrel;have hlr:In wr D 2 A n (fm l):=U8.just hj λc E e=>kV c E (by rw[e];exact L);have Qk:=hj.blk ky (λe=>h4 e.symm);by_cases N:k<n
   ·have hkt:decide ((k:Int)<(n:Int))=true:=aC ap
    obtain⟨ad,T_,rfl,Fx,K0⟩:=NA hlr N;have QL:=hd _ (bF T_);have oI:add q (l.take (k+1))=put (add q (l.take k)) l[k].1 (gt (add q (l.take k)) l[k].1+l[k].2):=by rw[br T_,add_one]
    have sv:=RD gC T_;have fj:(add q (l.take k)).length<dG:=by have:=nA (l.take k) q;rw[bn] at this;unfold dG;omega
    generalize l[k]=dk at Fx K0 QL oI sv;have f0:=Fx _ (Grow.refl _);have f1:=K0 _ (Grow.refl _);have fu:Grow wr (wr.alloc (.cells #[aX dk.1,ae ah dk.2] 147)):=(Below.refl _ wr).alloc (bh _) _;have Kz:=eJ.made wr 147 #[aX dk.1,ae ah dk.2];obtain⟨wa,HA⟩:=az (wr.alloc (.cells #[aX dk.1,ae ah dk.2] 147):X);obtain⟨x,HX⟩:=az ((wr:Nat):Nat);have uv:Grow wr wa:=HA.out▸fu;have pL:eJ wa x 147 #[aX dk.1,ae ah dk.2]:=by rw[HA.out,HX.out];exact Kz
    have Mw:=Qk.grow uv;have hMa:=hM.grow uv;obtain⟨gq,Zw⟩:=az (gt (add q (l.take k)) dk.1:Nat);rw[<-Zw.out] at oI sv;have wK:∀w1,Grow wa w1->(Instr.lookup 225 (.map (some b)) (aX dk.1) false).run W w1=.ok (ae ah gq) w1:=λw1 H=>by have:=SMap.II Ry (hMa.grow H) dk.1 QL.1;rwa [BJ,<-Zw.out] at this
    have qC:∀w1:X,dz W 297 #[ae ah gq,ae ah dk.2] w1 λe O=>e=b5 (ae ah ((gq+dk.2:Nat):Int))∧w1=O:=λw1=>by have:=Dt w1 gq dk.2 ap ap;rwa [aA sv] at this
    clear fu Kz hM;go_wp2_with fail;rw[<-HA.out,<-HX.out];have e0:=λw1(H:Grow wa w1)=>(Mw.grow H).cell 0;have e1:=λw1(H:Grow wa w1)=>(pL.grow H).cell 0;have e2:=λw1(H:Grow wa w1)=>(pL.grow H).cell 1;refine jo 16 λw1 H=>?_;clear e0 e1 e2 wK qC;obtain⟨w5,Cx,Zx,ra⟩:=Du (hMa.grow H) QL.1 sv fj;rw[<-oI] at Zx;rw[Int.natCast_add] at Cx;have hjj:=hj.trans ((dM.dK (V:=λc=>c=b) (uv.trans H)).trans ra);go_wp2_with fail;go_roundw;case rel=>exact⟨k+1,by omega,by go_num,Zx,hjj⟩
    case measure=>simp[intOf];omega
   ·obtain rfl:k=n:=by omega
    have hkt:decide ((k:Int)<(k:Int))=false:=aD ap;rw[bH ap] at hM;go_wp2;go_ret;exact⟨rfl,⟨.inl I,NB G (λd Iv=>(hd d Iv).1) gC,b,.inl L,h4,Qk,hM⟩,(dM.dK eD).trans (hj.imp λc E=>by rw[E];exact L)⟩
 ·rw[Md he]
  have heb:(abl != 0)=true:=by simpa using he
  go_in;go_wp2_with fail;refine hm.mono ?_;rintro e w1 ⟨rfl,eD⟩;have hS:=ej w1 eD;clear hm Mc Md ej;go_wp2;go_ret;exact⟨rfl,hS.wide λb hb => .inl hb,dM.dK eD⟩
end Go.Proofs.YtpeepcmdehhbgaaGreatDoor.abk
end
section
variable{n B k r abp c:Nat}{l t s:aT}{w:X}{A:aU}
namespace Go.Proofs.YtpeepcmdehhbgaaGreatDoor
open RowKit Hop V
def jl(r B:Nat)(l:aT)(w:X):Prop:=B<=r∧∃(A:aU)(n c:Nat),eJ w r 237 #[Z A n c,aY false]∧Bytes w B A n l∧n<=c∧c<=dG
theorem jl.grow{r B:Nat}{l:aT}{w O:X}(h:jl r B l w)(H:Grow w O):jl r B l O:=by obtain⟨I,A,n,c,G,L,h4⟩:=h;have:=G.lt;exact⟨I,A,n,c,G.grow H,L.below (H.mono ap),h4⟩
theorem jl.lt{r B:Nat}{l:aT}{w:X}(h:jl r B l w):r<(w:Nat):=by obtain⟨I,A,n,c,G,L,h4⟩:=h;exact G.lt
def VU(m:Nat)(t:aT)(hm:m<18446744073709551616):iF (enc m++t) m (enc m).length := .inl ⟨hm,cL _ _,rfl⟩
def VV(s t:aT)(hs:s.length<18446744073709551616):pA (enc s.length++s++t) s ((enc s.length).length+s.length) := .inl ⟨hs,cL _ _,rfl⟩
def zZ(h:Bytes w B A n (l++t))(iS:n<=c)(hl:0<l.length):Bytes w B (if c=l.length then A else A.map (·.add l.length)) (n-l.length) t∧l.length<=n:=by have hn:=h.len;rw[bd] at hn;have I:=Reads.cut (size:=1) (cap:=c) h (k:=l.length) ap iS;rw[cM,<-cM l.length,<-pU,cM,List.drop_left' rfl] at I;exact⟨I,by omega⟩
def pY(w:X)(A:aU)(n c:Nat)(l:aT)(h:Bytes w (w:Nat) A n l)(iS:n<=c)(iO:c<=dG):dz W 77 #[Z A n c] w λe O=>∃r,e=b5 (((r:Nat):K))∧jl r (w:Nat) l O∧Grow w O:=by go_in;go_wp2;go_ret;refine⟨_,rfl,⟨bh _,A,n,c,eJ.made w _ _,h.alloc (bh _) _,iS,iO⟩,(Below.refl _ w).alloc (bh _) _⟩
def ov(w:X)(r B:Nat)(h:jl r B [] w):dz W 80 #[r] w λe O=>e=b5 (aY true)∧w=O:=by obtain⟨hB,A,n,c,hK,hb,iS,iO⟩:=h;obtain rfl:0=n:=hb.len;have c0:=hK.cell 0;have c1:=hK.cell 1;go_in;go_wp2;go_ret;exact⟨rfl,rfl⟩
def kj(w:X)(r B m:Nat)(t:aT)(hm:m<18446744073709551616)(h:jl r B (enc m++t) w):dz W 141 #[r] w λe O=>e=b5 (ae ah m)∧jl r B t O∧fI r w O:=by
 obtain⟨hB,A,n,c,hK,hb,iS,iO⟩:=h;have hp:=nx m;obtain⟨E,mn⟩:=zZ hb iS hp;have hG:=qG w B A n c _ hb ap;have c0:=hK.cell 0;have c1:=hK.cell 1;have f0:=hK.frozen 0;obtain⟨k,HK⟩:=az ((enc m).length);rw[<-HK.out] at E mn hp;go_in;go_wp2_with fail;refine hG.mono ?_;rintro e w1 ⟨v,k',hv,rfl,rfl⟩;obtain⟨rfl,qY⟩:=hv.one (VU m t hm);rw[<-HK.out] at qY;subst qY;by_cases o9:c=k'
 ·rw[aA o9] at E
  go_wp2;go_ret;exact⟨rfl,⟨hB,_,_,_,hK.put 0 _,E.setCell (p:=⟨r,0,none⟩) hB _,by omega,by omega⟩,(fI.refl r w).put 0 _⟩
 ·rw[aB o9] at E
  go_wp2;go_ret;exact⟨rfl,⟨hB,_,_,_,hK.put 0 _,E.setCell (p:=⟨r,0,none⟩) hB _,by omega,by omega⟩,(fI.refl r w).put 0 _⟩
def pZ(w:X)(r B m:Nat)(t:aT)(hm:m<=9223372036854775807)(h:jl r B (enc m++t) w):dz W 139 #[r] w λe O=>e=b5 (J m)∧jl r B t O∧fI r w O:=by
 have hN:=kj w r B m t ap h;have Ve:decide ((m:Int) > 9223372036854775807)=false:=aD ap;have hw:IntKind.i64.wrap (m:Int)=(m:Int):=by rw[IntKind.wrap_i64];omega
 go_in;go_wp2_with fail;refine hN.mono ?_;rintro e w1 ⟨rfl,I,ho⟩;go_wp2;go_ret;exact⟨rfl,I,ho⟩
def rX(w:X)(r B m most:Nat)(t:aT)(hm:m<=most)(QK:most<=9223372036854775807)(h:jl r B (enc m++t) w):dz W 140 #[r,J most] w λe O=>e=b5 (J m)∧jl r B t O∧fI r w O:=by have hN:=pZ w r B m t ap h;go_in;go_wp2_with fail;refine hN.mono ?_;rintro e w1 ⟨rfl,I,ho⟩;go_wp2;go_ret;exact⟨rfl,I,ho⟩
def KA(w:X)(r B:Nat)(s t:aT)(hs:s.length<18446744073709551616)(h:jl r B (enc s.length++s++t) w):dz W 138 #[r] w λe O=>e=b5 (aX ⟨s.toArray⟩)∧jl r B t O∧fI r w O:=by
 obtain⟨hB,A,n,c,hK,hb,iS,iO⟩:=h;have hp:=nx s.length;have hl:(enc s.length++s).length=(enc s.length).length+s.length:=bd;obtain⟨E,mn⟩:=zZ hb iS ap;have hG:=Vc.sJ w B A n c _ hb (by have:=hK.lt;omega) iS iO;have c0:=hK.cell 0;obtain⟨k,HK⟩:=az ((enc s.length).length+s.length);rw[hl,<-HK.out] at E mn;have K2:1<=k:=by have:=HK.out;omega
 go_in;go_wp2_with fail;refine hG.mono ?_;rintro e w1 ⟨v,k',hv,rfl,H⟩;obtain⟨rfl,qY⟩:=hv.one (VV s t hs);rw[<-HK.out] at qY;subst qY;have hK1:=hK.grow H;have kM:=E.below (H.mono (by have:=hK.lt;omega));clear c0;have c0:=hK1.cell 0;have c1:=hK1.cell 1;have f0:=hK1.frozen 0;by_cases o9:c=k'
 ·rw[aA o9] at kM
  go_wp2;go_ret;exact⟨rfl,⟨hB,_,_,_,hK1.put 0 _,kM.setCell (p:=⟨r,0,none⟩) hB _,by omega,by omega⟩,(fI.dK H).put 0 _⟩
 ·rw[aB o9] at kM
  go_wp2;go_ret;exact⟨rfl,⟨hB,_,_,_,hK1.put 0 _,kM.setCell (p:=⟨r,0,none⟩) hB _,by omega,by omega⟩,(fI.dK H).put 0 _⟩
def xA:Nat->List UInt8->Option (Nat×List UInt8)
 | 0,_=>none
 | _+1,[]=>none
 | f+1,b::l=>if b.toNat<128 then some (b.toNat,l) else match xA f l with
   | none=>none
   | some (n,t)=>if n=0 then none else some (n*128+(b.toNat-128),t)
def BL(l:aT):Option (Nat×List UInt8):=match xA 10 l with
 | none=>none
 | some (n,t)=>if n<18446744073709551616 then some (n,t) else none
def BM(l:aT):Option (List UInt8×List UInt8):=match BL l with
 | none=>none
 | some (n,t)=>if n<=t.length then some (t.take n,t.drop n) else none
theorem Dv:∀(f n:Nat)(t:aT),(enc n).length<=f->xA f (enc n++t)=some (n,t)
 | 0,n,t,h=>by have:=nx n;omega
 | f+1,n,t,h=>by
   by_cases hn:n<128
   ·rw[j7 hn]
    show xA (f+1) (UInt8.ofNat n::t)=_;unfold xA;rw[nT ap,aA hn]
   ·rw[lB ap] at h ⊢
    have ih:=Dv f (n / 128) t (by simpa using h);show xA (f+1) (UInt8.ofNat (n % 128+128)::(enc (n / 128)++t))=_;unfold xA;rw[nT ap,aB ap,ih];dsimp only;rw[aB ap,show n / 128*128+(n % 128+128-128)=n by omega]
theorem z_:∀(f:Nat)(l:aT)(n:Nat)(t:aT),xA f l=some (n,t)->l=enc n++t
 | 0,_,_,_,h=>by cases h
 | _+1,[],_,_,h=>by cases h
 | f+1,b::l,n,t,h=>by
   unfold xA at h;split at h
   ·rename_i hb
    injection h with h;injection h with I G;subst I G;rw[j7 hb,UInt8.ofNat_toNat];rfl
   ·rename_i hb
    cases H:xA f l with
    | none=>rw[H] at h;cases h
    | some p=>
      obtain⟨m,t'⟩:=p;rw[H] at h;dsimp only at h;split at h;·cases h
      ·rename_i hm
       simp only[Option.some.injEq,Prod.mk.injEq] at h;obtain⟨rfl,rfl⟩:=h;have ih:=z_ f l m t' H;have lA:=b.toNat_lt;rw[lB ap,show (m*128+(b.toNat-128)) / 128=m by omega,show (m*128+(b.toNat-128)) % 128+128=b.toNat by omega,UInt8.ofNat_toNat,ih];rfl
def xB(t:aT)(h:n<18446744073709551616):BL (enc n++t)=some (n,t):=by unfold BL;rw[Dv 10 n t (eE h)];exact aA h
theorem qJ(h:BL l=some (n,t)):n<18446744073709551616∧l=enc n++t:=by
 unfold BL at h;cases H:xA 10 l with
 | none=>rw[H] at h;cases h
 | some p=>
   obtain⟨m,t'⟩:=p;rw[H] at h;dsimp only at h;split at h
   ·rename_i hm
    injection h with h;injection h with I G;subst I G;exact⟨hm,z_ 10 l m t' H⟩
   ·cases h
def RE(h:iF l n k):BL l=if k=0 then none else some (n,l.drop k):=by
 rcases h with ⟨I,⟨t,rfl⟩,rfl⟩|⟨I,rfl,rfl⟩
 ·rw[xB t I,aB (by have:=nx n;omega),List.drop_left' rfl]
 ·rw[aA rfl]
  cases H:BL l with
  | none=>rfl
  | some p=>exact absurd ⟨p.2,(qJ H).2.symm⟩ (I p.1 (qJ H).1)
def Dw(t:aT)(h:s.length<18446744073709551616):BM (enc s.length++s++t)=some (s,t):=by unfold BM;rw[bp,xB _ h];show (if s.length<=(s++t).length then some ((s++t).take s.length,(s++t).drop s.length) else none)=_;rw[aA (by simp),List.take_left' rfl,List.drop_left' rfl]
theorem ux(h:BM l=some (s,t)):s.length<18446744073709551616∧l=enc s.length++s++t:=by
 unfold BM at h;cases H:BL l with
 | none=>rw[H] at h;cases h
 | some p=>
   obtain⟨n,t'⟩:=p;rw[H] at h;dsimp only at h;split at h
   ·rename_i hn
    injection h with h;injection h with I G;subst I G;obtain⟨g1,g2⟩:=qJ H;rw[List.length_take_of_le hn];exact⟨g1,by rw[g2,bp,dt]⟩
   ·cases h
def RF(h:pA l t k):BM l=if k=0 then none else some (t,l.drop k):=by
 rcases h with ⟨I,⟨r,rfl⟩,rfl⟩|⟨I,rfl,rfl⟩
 ·rw[Dw r I,aB (by have:=nx t.length;omega),List.drop_left' (by simp)]
 ·rw[aA rfl]
  cases H:BM l with
  | none=>rfl
  | some p=>exact absurd ⟨p.2,(ux H).2.symm⟩ (I p.1 (ux H).1)
abbrev RS:=Option (List UInt8)
def kO(s:RS):Nat×RS:=match s with
 | none=>(0,none)
 | some l=>match BL l with
   | none=>(0,none)
   | some (n,t)=>(n,some t)
def gu(s:RS):Nat×RS:=if (kO s).1<=9223372036854775807 then kO s else (0,none)
def gb(m:Nat)(s:RS):Nat×RS:=if (gu s).1<=m then gu s else (0,none)
def gn(s:RS):List UInt8×RS:=match s with
 | none=>([],none)
 | some l=>match BM l with
   | none=>([],none)
   | some (x,t)=>(x,some t)
def nB(s:RS):Nat×RS:=match s with
 | some (b::t)=>(b.toNat,some t)
 | _=>(0,none)
def xC(t:aT)(h:n<18446744073709551616):kO (some (enc n++t))=(n,some t):=by unfold kO;dsimp only;rw[xB t h]
def iI(t:aT)(h:n<=9223372036854775807):gu (some (enc n++t))=(n,some t):=by unfold gu;rw[xC t ap];exact aA h
def iW{m:Nat}(t:aT)(h:n<=9223372036854775807)(hm:n<=m):gb m (some (enc n++t))=(n,some t):=by unfold gb;rw[iI t h];exact aA hm
def uy(t:aT)(h:s.length<18446744073709551616):gn (some (enc s.length++s++t))=(s,some t):=by unfold gn;dsimp only;rw[Dw t h]
def xD(s:RS):(kO s).1<=18446744073709551615:=by
 unfold kO;split;·exact bo _
 ·split
  ·exact bo _
  ·rename_i h
   exact Nat.le_of_lt_succ (qJ h).1
def Ge(s:RS):(gu s).1<=9223372036854775807:=by
 unfold gu;split;·assumption
 ·exact bo _
def BN(m:Nat)(s:RS):(gb m s).1<=m:=by
 unfold gb;split;·assumption
 ·exact bo _
def km(r B abp:Nat)(s:RS)(w:X):Prop:=B<=r∧∃(A:aU)(n c:Nat)(l:aT)(b:Bool),l.length<=abp∧eJ w r 237 #[Z A n c,aY b]∧Bytes w B A n l∧(n<=c∧c<=dG)∧s=if b=true then none else some l
theorem km.grow{r B abp:Nat}{s:RS}{w O:X}(h:km r B abp s w)(H:Grow w O):km r B abp s O:=by obtain⟨I,A,n,c,l,b,h0,G,L,h4⟩:=h;have:=G.lt;exact⟨I,A,n,c,l,b,h0,G.grow H,L.below (H.mono ap),h4⟩
theorem km.lt{r B abp:Nat}{s:RS}{w:X}(h:km r B abp s w):r<(w:Nat):=by obtain⟨I,A,n,c,l,b,h0,G,L,h4⟩:=h;exact G.lt
def km.of(h:jl r B l w)(hl:l.length<=abp):km r B abp (some l) w:=by obtain⟨I,A,n,c,G,L,h4⟩:=h;exact⟨I,A,n,c,l,false,hl,G,L,h4,rfl⟩
def KB(h:iF l n k):n<=18446744073709551615∧k<=l.length:=by
 rcases h with ⟨I,G,L⟩|⟨_,G,L⟩
 ·exact⟨by omega,by rw[L];exact G.length_le⟩
 ·omega
def KC(h:pA l t k):t.length<=l.length∧k<=l.length:=by
 rcases h with ⟨I,G,L⟩|⟨_,G,L⟩
 ·have:=G.length_le
  rw[bd] at this;omega
 ·rw[G];simp;omega
def BO(h:Bytes w B A n l)(iS:n<=c)(N:k<=n):Bytes w B (if c=k then A else A.map (·.add k)) (n-k) (l.drop k):=by have I:=Reads.cut (size:=1) (cap:=c) h (k:=k) N iS;rw[cM,<-cM k,<-pU,cM] at I;exact I
def uz(w:X)(r B abp:Nat)(s:RS)(h:km r B abp s w):dz W 141 #[r] w λe O=>e=b5 (ae ah ((kO s).1:Int))∧km r B abp (kO s).2 O∧fI r w O:=by
 obtain⟨⟨m,s'⟩,hq⟩:∃q,Hid (q=kO s):=⟨_,Q rfl⟩;rw[<-hq.out];dsimp only;obtain⟨hB,A,n,c,l,b,hl,hK,hb,⟨iS,iO⟩,rfl⟩:=h;have hG:=qG w B A n c _ hb ap;have c0:=hK.cell 0;have c1:=hK.cell 1;have f0:=hK.frozen 0;have f1:=hK.frozen 1;have hn:=hb.len;go_in;go_wp2_with fail;refine hG.mono ?_;rintro e w1 ⟨v,k,hv,rfl,rfl⟩;obtain⟨hv1,rK⟩:=KB hv;have bad:∀O,O=w.setCell (r,1) (aY true)->km r B abp none O∧fI r w O:=λO e=>by subst e;exact⟨⟨hB,A,n,c,l,true,hl,hK.put 1 _,hb.setCell (p:=⟨r,1,none⟩) hB _,⟨iS,iO⟩,rfl⟩,(fI.refl r w).put 1 _⟩
 rcases bC b with I|I
 ·subst I
  clear hv rK hG hl hn;go_wp2;go_ret;obtain⟨rfl,rfl⟩:=Prod.mk.inj hq.out;exact⟨rfl,bad _ rfl⟩
 ·subst I
  have hF:kO (some l)=if k=0 then (0,none) else (v,some (l.drop k)):=by
   unfold kO;dsimp only;rw[RE hv];by_cases N:k=0;·rw[aA N,aA N]
   ·rw[aB N,aB N]
  rw[aB cB] at hq;by_cases N:k=0
  ·subst N
   rw[aA rfl] at hF;clear hv rK hG hl hn;go_wp2;go_ret;obtain⟨rfl,rfl⟩:=Prod.mk.inj (hq.out.trans hF);exact⟨rfl,bad _ rfl⟩
  ·rw[aB N] at hF
   have dk:((k:Int) == 0)=false:=by simp;omega
   have E:=BO hb iS (k:=k) ap;have oL:k<=n:=by omega
   clear bad hv hG N;replace hn:=Q hn;replace hl:=Q hl;by_cases o9:c=k
   ·rw[aA o9] at E
    go_wp2;go_ret;obtain⟨rfl,rfl⟩:=Prod.mk.inj (hq.out.trans hF);exact⟨rfl,⟨hB,_,_,_,l.drop k,false,by rw[bO];have:=hl.out;omega,hK.put 0 _,E.setCell (p:=⟨r,0,none⟩) hB _,⟨by omega,by omega⟩,rfl⟩,(fI.refl r w).put 0 _⟩
   ·rw[aB o9] at E
    go_wp2;go_ret;obtain⟨rfl,rfl⟩:=Prod.mk.inj (hq.out.trans hF);exact⟨rfl,⟨hB,_,_,_,l.drop k,false,by rw[bO];have:=hl.out;omega,hK.put 0 _,E.setCell (p:=⟨r,0,none⟩) hB _,⟨by omega,by omega⟩,rfl⟩,(fI.refl r w).put 0 _⟩
def km.bad{s:RS}{O:X}(h:km r B abp s w)(e:O=w.setCell (r,1) (aY true)):km r B abp none O:=by obtain⟨hB,A,n,c,l,b,hl,hK,hb,iS,hs⟩:=h;subst e;exact⟨hB,A,n,c,l,true,hl,hK.put 1 _,hb.setCell (p:=⟨r,1,none⟩) hB _,iS,rfl⟩
def km.cells{s:RS}(h:km r B abp s w):(∃b,w.cell? (r,1)=some (aY b))∧w.frozen? (r,1)=false:=by obtain⟨hB,A,n,c,l,b,hl,hK,hb,iS,hs⟩:=h;exact⟨⟨b,hK.cell 1⟩,hK.frozen 1⟩
def NC(w:X)(r B abp:Nat)(s:RS)(h:km r B abp s w):dz W 139 #[r] w λe O=>e=b5 (J ((gu s).1:Int))∧km r B abp (gu s).2 O∧fI r w O:=by
 have hN:=uz w r B abp s h;clear h;unfold gu;obtain⟨⟨m,s1⟩,hq⟩:∃q,q=kO s:=⟨_,rfl⟩;rw[<-hq] at hN ⊢;clear hq;dsimp only at hN ⊢;obtain⟨⟨v,s'⟩,hq⟩:∃q:Nat×RS,Hid (q=if m<=9223372036854775807 then (m,s1) else (0,none)):=⟨_,Q rfl⟩;rw[<-hq.out];dsimp only;go_in;go_wp2_with fail;refine hN.mono ?_;rintro e w1 ⟨rfl,I,ho⟩;by_cases hb:m<=9223372036854775807
 ·have a65:decide ((9223372036854775807:Int)<(m:Int))=false:=aD ap
  have hw:IntKind.i64.wrap (m:Int)=(m:Int):=by rw[IntKind.wrap_i64];omega
  go_wp2;go_ret;obtain⟨rfl,rfl⟩:=Prod.mk.inj (hq.out.trans (aA hb));exact⟨rfl,I,ho⟩
 ·have a65:decide ((9223372036854775807:Int)<(m:Int))=true:=aC ap
  obtain⟨⟨b,c1⟩,f1⟩:=I.cells;replace I:=Q I;go_wp2;go_ret;obtain⟨rfl,rfl⟩:=Prod.mk.inj (hq.out.trans (aB hb));exact⟨rfl,I.out.bad rfl,ho.put 1 _⟩
def ND(w:X)(r B abp most:Nat)(s:RS)(h:km r B abp s w):dz W 140 #[r,J most] w λe O=>e=b5 (J ((gb most s).1:Int))∧km r B abp (gb most s).2 O∧fI r w O:=by
 have hN:=NC w r B abp s h;clear h;unfold gb;obtain⟨⟨m,s1⟩,hq⟩:∃q,q=gu s:=⟨_,rfl⟩;rw[<-hq] at hN ⊢;clear hq;dsimp only at hN ⊢;obtain⟨⟨v,s'⟩,hq⟩:∃q:Nat×RS,Hid (q=if m<=most then (m,s1) else (0,none)):=⟨_,Q rfl⟩;rw[<-hq.out];dsimp only;go_in;go_wp2_with fail;refine hN.mono ?_;rintro e w1 ⟨rfl,I,ho⟩;by_cases hb:m<=most
 ·have Ve:decide (most<m)=false:=aD ap
  go_wp2;go_ret;obtain⟨rfl,rfl⟩:=Prod.mk.inj (hq.out.trans (aA hb));exact⟨rfl,I,ho⟩
 ·have Ve:decide (most<m)=true:=aC ap
  obtain⟨⟨b,c1⟩,f1⟩:=I.cells;replace I:=Q I;go_wp2;go_ret;obtain⟨rfl,rfl⟩:=Prod.mk.inj (hq.out.trans (aB hb));exact⟨rfl,I.out.bad rfl,ho.put 1 _⟩
def IZ(w:X)(r B abp:Nat)(s:RS)(h:km r B abp s w):dz W 138 #[r] w λe O=>e=b5 (aX ⟨(gn s).1.toArray⟩)∧km r B abp (gn s).2 O∧fI r w O:=by
 obtain⟨⟨m,s'⟩,hq⟩:∃q,Hid (q=gn s):=⟨_,Q rfl⟩;rw[<-hq.out];dsimp only;obtain⟨hB,A,n,c,l,b,hl,hK,hb,⟨iS,iO⟩,rfl⟩:=h;have hG:=Vc.sJ w B A n c _ hb (by have:=hK.lt;omega) iS iO;have c0:=hK.cell 0;have hn:=hb.len;go_in;go_wp2_with fail;refine hG.mono ?_;rintro e w1 ⟨t,k,hv,rfl,H⟩;obtain⟨hv1,rK⟩:=KC hv;have hb:=hb.below (H.mono (by have:=hK.lt;omega));have hK:=hK.grow H;clear c0;have c0:=hK.cell 0;have c1:=hK.cell 1;have f0:=hK.frozen 0;have f1:=hK.frozen 1;have bad:∀O,O=w1.setCell (r,1) (aY true)->km r B abp none O∧fI r w O:=λO e=>by subst e;exact⟨⟨hB,A,n,c,l,true,hl,hK.put 1 _,hb.setCell (p:=⟨r,1,none⟩) hB _,⟨iS,iO⟩,rfl⟩,(fI.dK H).put 1 _⟩
 rcases bC b with I|I
 ·subst I
  clear hv hv1 rK hG hl hn;go_wp2;go_ret;obtain⟨rfl,rfl⟩:=Prod.mk.inj hq.out;exact⟨rfl,bad _ rfl⟩
 ·subst I
  have hF:gn (some l)=if k=0 then ([],none) else (t,some (l.drop k)):=by
   unfold gn;dsimp only;rw[RF hv];by_cases N:k=0;·rw[aA N,aA N]
   ·rw[aB N,aB N]
  rw[aB cB] at hq;by_cases N:k=0
  ·subst N
   rw[aA rfl] at hF;clear hv hv1 rK hG hl hn;go_wp2;go_ret;obtain⟨rfl,rfl⟩:=Prod.mk.inj (hq.out.trans hF);exact⟨rfl,bad _ rfl⟩
  ·rw[aB N] at hF
   have dk:((k:Int) == 0)=false:=by simp;omega
   have E:=BO hb iS (k:=k) ap;have oL:k<=n:=by omega
   clear bad hv hv1 hG N;replace hn:=Q hn;replace hl:=Q hl;by_cases o9:c=k
   ·rw[aA o9] at E
    go_wp2;go_ret;obtain⟨rfl,rfl⟩:=Prod.mk.inj (hq.out.trans hF);exact⟨rfl,⟨hB,_,_,_,l.drop k,false,by rw[bO];have:=hl.out;omega,hK.put 0 _,E.setCell (p:=⟨r,0,none⟩) hB _,⟨by omega,by omega⟩,rfl⟩,(fI.dK H).put 0 _⟩
   ·rw[aB o9] at E
    go_wp2;go_ret;obtain⟨rfl,rfl⟩:=Prod.mk.inj (hq.out.trans hF);exact⟨rfl,⟨hB,_,_,_,l.drop k,false,by rw[bO];have:=hl.out;omega,hK.put 0 _,E.setCell (p:=⟨r,0,none⟩) hB _,⟨by omega,by omega⟩,rfl⟩,(fI.dK H).put 0 _⟩
def RG(w:X)(r B abp:Nat)(s:RS)(h:km r B abp s w):dz W 79 #[r] w λe O=>e=b5 (.int .u8 ((nB s).1:Int))∧km r B abp (nB s).2 O∧fI r w O:=by
 obtain⟨⟨m,s'⟩,hq⟩:∃q,Hid (q=nB s):=⟨_,Q rfl⟩;rw[<-hq.out];dsimp only;obtain⟨hB,A,n,c,l,b,hl,hK,hb,⟨iS,iO⟩,rfl⟩:=h;have c0:=hK.cell 0;have c1:=hK.cell 1;have f0:=hK.frozen 0;have f1:=hK.frozen 1;have hn:=hb.len;have bad:∀O,O=w.setCell (r,1) (aY true)->km r B abp none O∧fI r w O:=λO e=>by subst e;exact⟨⟨hB,A,n,c,l,true,hl,hK.put 1 _,hb.setCell (p:=⟨r,1,none⟩) hB _,⟨iS,iO⟩,rfl⟩,(fI.refl r w).put 1 _⟩
 rcases bC b with I|I
 ·subst I
  clear hl hn;go_in;go_wp2;go_ret;obtain⟨rfl,rfl⟩:=Prod.mk.inj hq.out;exact⟨rfl,bad _ rfl⟩
 ·subst I
  rw[aB cB] at hq;by_cases N:n=0
  ·have dk:((n:Int) == 0)=true:=by simp[N]
   obtain rfl:l=[]:=List.length_eq_zero_iff.1 ap;replace hn:=Q hn;replace N:=Q N;clear hl;go_in;go_wp2;go_ret;obtain⟨rfl,rfl⟩:=Prod.mk.inj hq.out;exact⟨rfl,bad _ rfl⟩
  ·have dk:((n:Int) == 0)=false:=by simp;omega
   have E:=BO hb iS (k:=1) ap;obtain⟨ad,hl0,rfl,Y⟩:=hb.at_ (k:=0) ap;rw[show ad.add 0=ad from rfl] at Y;have h1n:0<n:=by omega
   have h1n':1<=n:=by omega
   have hF:nB (some l)=(l[0].toNat,some (l.drop 1)):=by
    cases l with
    | nil=>exact absurd hl0 (by simp)
    | cons b0 t=>rfl
   generalize l[0]=by0 at Y hF;clear bad;replace hn:=Q hn;replace hl:=Q hl;go_in;by_cases o9:c=1
   ·rw[aA o9] at E
    subst o9;obtain rfl:n=1:=by omega
    go_wp2;go_ret;obtain⟨rfl,rfl⟩:=Prod.mk.inj (hq.out.trans hF);exact⟨rfl,⟨hB,_,_,_,l.drop 1,false,by rw[bO];have:=hl.out;omega,hK.put 0 _,E.setCell (p:=⟨r,0,none⟩) hB _,⟨by omega,by omega⟩,rfl⟩,(fI.refl r w).put 0 _⟩
   ·rw[aB o9] at E
    go_wp2;go_ret;obtain⟨rfl,rfl⟩:=Prod.mk.inj (hq.out.trans hF);exact⟨rfl,⟨hB,_,_,_,l.drop 1,false,by rw[bO];have:=hl.out;omega,hK.put 0 _,E.setCell (p:=⟨r,0,none⟩) hB _,⟨by omega,by omega⟩,rfl⟩,(fI.refl r w).put 0 _⟩
def Gf(w:X)(r B abp:Nat)(s:RS)(h:km r B abp s w):dz W 197 #[r] w λe O=>e=b5 (aY s.isNone)∧w=O:=by
 obtain⟨hB,A,n,c,l,b,hl,hK,hb,iS,hs⟩:=h;have vq:s.isNone=b:=by rw[hs];cases b<;>rfl
 rw[vq];have c1:=hK.cell 1;clear hs vq;go_in;go_wp2;go_ret;exact⟨rfl,rfl⟩
def BP(w:X)(r B abp:Nat)(s:RS)(h:km r B abp s w):dz W 80 #[r] w λe O=>e=b5 (aY (decide (s=some [])))∧w=O:=by
 obtain⟨hB,A,n,c,l,b,hl,hK,hb,iS,hs⟩:=h;obtain⟨d,Hd⟩:=az (decide (s=some []));rw[<-Hd.out];have c0:=hK.cell 0;have c1:=hK.cell 1;have hn:=hb.len;rcases bC b with I|I
 ·subst I
  have hd:d=false:=by rw[Hd.out,hs];rfl
  subst hd;clear hs;go_in;go_wp2;go_ret;exact⟨rfl,rfl⟩
 ·subst I
  have hd:((n:Int) == 0)=d:=by
   rw[Hd.out,hs,aB cB,<-hn];cases l with
   | nil=>rfl
   | cons a t=>rw[aD (by simp),beq_eq_false_iff_ne,bD];omega
  clear hs;go_in;go_wp2;go_ret;exact⟨rfl,rfl⟩
def Dx(s:RS):(nB s).1<=255:=by
 unfold nB;split
 ·rename_i b t
  have:=b.toNat_lt;show b.toNat<=255;omega
 ·exact bo _
def KD(w:X)(r B abp:Nat)(s:RS)(h:km r B abp s w):dz W 141 #[r] w λe O=>∃(m:Nat)(s':RS),Hid (kO s=(m,s'))∧m<=18446744073709551615∧e=b5 (ae ah m)∧km r B abp s' O∧fI r w O:=(uz w r B abp s h).mono λe O ⟨I,G,L⟩=>⟨_,_,Q rfl,xD s,I,G,L⟩
def mO(w:X)(r B abp:Nat)(s:RS)(h:km r B abp s w):dz W 139 #[r] w λe O=>∃(m:Nat)(s':RS),Hid (gu s=(m,s'))∧m<=9223372036854775807∧e=b5 (J m)∧km r B abp s' O∧fI r w O:=(NC w r B abp s h).mono λe O ⟨I,G,L⟩=>⟨_,_,Q rfl,Ge s,I,G,L⟩
def lK(w:X)(r B abp most:Nat)(s:RS)(h:km r B abp s w):dz W 140 #[r,J most] w λe O=>∃(m:Nat)(s':RS),Hid (gb most s=(m,s'))∧m<=most∧e=b5 (J m)∧km r B abp s' O∧fI r w O:=(ND w r B abp most s h).mono λe O ⟨I,G,L⟩=>⟨_,_,Q rfl,BN most s,I,G,L⟩
def I_(w:X)(r B abp:Nat)(s:RS)(h:km r B abp s w):dz W 79 #[r] w λe O=>∃(m:Nat)(s':RS),Hid (nB s=(m,s'))∧m<=255∧e=b5 (.int .u8 m)∧km r B abp s' O∧fI r w O:=(RG w r B abp s h).mono λe O ⟨I,G,L⟩=>⟨_,_,Q rfl,Dx s,I,G,L⟩
end Go.Proofs.YtpeepcmdehhbgaaGreatDoor
end
section
variable{i g B:Nat}{w:X}{nodes:Int}{P:aO}
namespace Go.Proofs.YtpeepcmdehhbgaaGreatDoor.Ne
open RowKit Hop
def Us(x g:Nat)(f t:Int)(A:aU)(m c:Nat)(nodes:Int)(A0:aU)(n c0:Nat)(P:aO)(w:X):Prop:=eJ w x 172 #[J f,J t,Z A m c]∧eJ w g 170 (oT nodes (Z A0 n c0) P)
def Aa:jr l7:=λ_ _ _ _ _ h hj hd=>h.just hj hd
def NF{u:K}{ρ:Operand->K}{o:dE}{x:Operand}{b:Lt}(I:ρ x=u)(hu:u=aZ (Lt.cells b).toArray)(ho:o.op=.buildSlice 86 1 #[(0,x)]):(execOp ρ o).run W w=.ok (.value (Z (some ⟨(w:Nat),0,none⟩) 1 1)) (w.alloc (.cells (Lt.cells b).toArray 172)):=by obtain⟨dst,op,ty,pos,after,guard⟩:=o;simp only at ho;subst ho hu;unfold Lt.cells at I ⊢;go_simp
def NG{w:World}{b:Lt}(a:Lb){args:aP}(h:Calls Tryz.prog 95 args w λe O=>∃A' c',e=b5 (aZ #[J b.f,J b.t,Z A' b.m c'])∧l7 O (New w O) ⟨b.f,b.t,A',b.m,c',b.bs⟩∧Grow w O)(hs:B<=(w:Nat))(hB:b.abs=a:=by rfl):Calls Tryz.prog 95 args w λe O=>∃u,e=b5 u∧Grow w O∧Zf Lt.cells l7 B (λb=>b.abs=a) u O:=by refine h.mono λe O ⟨A',c',he,lU,H⟩=>⟨_,he,H,⟨⟨b.f,b.t,A',b.m,c',b.bs⟩,(O:Nat),hB,rfl,lU.mono λx Y=>⟨Nat.le_trans hs Y.1,Y.2⟩,Nat.le_refl _⟩⟩
def VW(w:X)(g:Nat)(nodes:Int)(l:List Lb)(P:aO)(f t:Int)(A:aU)(m c:Nat)(hf:iy nodes f=false):ii W 213 #[g,aZ #[J f,J t,Z A m c]] (λe=>e=b5 (J 23)) (fc g nodes l P) (fc g nodes l P) w:=by
 intro V hQ hV;have Mz:=hQ;obtain⟨I,v,q,R,D,ig,M9,hN,qD,hB,kN,h6,h7,h8⟩:=hQ;obtain⟨A0,c0,rfl,hI,iS,su⟩:=kN.jL;have fu:Grow w (w.alloc (.cells #[J f,J t,Z A m c] 172)):=(Below.refl (w:Nat) w).alloc (bh _) _;have mw:=eJ.made w 172 #[J f,J t,Z A m c];obtain⟨x,HX⟩:=az ((w:Nat):Nat);obtain⟨wa,HA⟩:=az (w.alloc (.cells #[J f,J t,Z A m c] 172):X);have HSA:Hid ((wa:Nat)=x+1):=Q (by rw[HA.out,HX.out];simp);rw[<-HA.out] at fu;have rz:eJ wa x 172 #[J f,J t,Z A m c]:=by rw[HA.out,HX.out];exact mw
 clear mw;have tV:=hB.grow fu;have x1:=rz.cell 1;have cq1:wa.cell? (g,1)=some (Z A0 q.length c0):=tV.cell 1;go_in;go_wp2_with fail;rw[<-HA.out,<-HX.out];go_wp2_with (go_at_call 274;refine (sM wa g nodes _ _ _ tV).mono ?_;rintro e w2 ⟨rfl,sC⟩;subst sC);go_ret;exact⟨rfl,fc.wide (fc.framed _ _ _ _ w _ V Mz λb hb=>fu.block b (hV b hb)) (λ_ => .inl),dM.dK fu⟩
def VX(w:X)(g:Nat)(nodes:Int)(l:List Lb)(P:aO)(f t:Int)(A:aU)(m c:Nat)(hf:iy nodes f=true)(ht:iy nodes t=false):ii W 213 #[g,aZ #[J f,J t,Z A m c]] (λe=>e=b5 (J 23)) (fc g nodes l P) (fc g nodes l P) w:=by
 intro V hQ hV;have Mz:=hQ;obtain⟨I,v,q,R,D,ig,M9,hN,qD,hB,kN,h6,h7,h8⟩:=hQ;obtain⟨A0,c0,rfl,hI,iS,su⟩:=kN.jL;have fu:Grow w (w.alloc (.cells #[J f,J t,Z A m c] 172)):=(Below.refl (w:Nat) w).alloc (bh _) _;have mw:=eJ.made w 172 #[J f,J t,Z A m c];obtain⟨x,HX⟩:=az ((w:Nat):Nat);obtain⟨wa,HA⟩:=az (w.alloc (.cells #[J f,J t,Z A m c] 172):X);have HSA:Hid ((wa:Nat)=x+1):=Q (by rw[HA.out,HX.out];simp);rw[<-HA.out] at fu;have rz:eJ wa x 172 #[J f,J t,Z A m c]:=by rw[HA.out,HX.out];exact mw
 clear mw;have tV:=hB.grow fu;have x1:=rz.cell 1;have cq1:wa.cell? (g,1)=some (Z A0 q.length c0):=tV.cell 1;go_in;go_wp2_with fail;rw[<-HA.out,<-HX.out];go_wp2_with (go_at_call 274;refine (sM wa g nodes _ _ _ tV).mono ?_;rintro e w2 ⟨rfl,sC⟩;subst sC);go_ret;exact⟨rfl,fc.wide (fc.framed _ _ _ _ w _ V Mz λb hb=>fu.block b (hV b hb)) (λ_ => .inl),dM.dK fu⟩
def KE(w:X)(g:Nat)(nodes:Int)(l:List Lb)(P:aO)(f t:Int)(A:aU)(m c:Nat)(hf:iy nodes f=true)(ht:iy nodes t=true)(hl:64<=l.length):ii W 213 #[g,aZ #[J f,J t,Z A m c]] (λe=>e=b5 (J 24)) (fc g nodes l P) (fc g nodes l P) w:=by
 intro V hQ hV;have Mz:=hQ;obtain⟨I,v,q,R,D,ig,M9,hN,qD,hB,kN,h6,h7,h8⟩:=hQ;obtain⟨A0,c0,rfl,hI,iS,su⟩:=kN.jL;have fu:Grow w (w.alloc (.cells #[J f,J t,Z A m c] 172)):=(Below.refl (w:Nat) w).alloc (bh _) _;have mw:=eJ.made w 172 #[J f,J t,Z A m c];obtain⟨x,HX⟩:=az ((w:Nat):Nat);obtain⟨wa,HA⟩:=az (w.alloc (.cells #[J f,J t,Z A m c] 172):X);have HSA:Hid ((wa:Nat)=x+1):=Q (by rw[HA.out,HX.out];simp);rw[<-HA.out] at fu;have rz:eJ wa x 172 #[J f,J t,Z A m c]:=by rw[HA.out,HX.out];exact mw
 clear mw;have tV:=hB.grow fu;have x1:=rz.cell 1;have cq1:wa.cell? (g,1)=some (Z A0 q.length c0):=tV.cell 1;have RH:64<=q.length:=by rw[<-ig,bj] at hl;exact hl
 clear ig hl;go_in;go_wp2_with fail;rw[<-HA.out,<-HX.out];go_wp2_with (go_at_call 274;refine (sM wa g nodes _ _ _ tV).mono ?_;rintro e w2 ⟨rfl,sC⟩;subst sC);go_ret;exact⟨rfl,fc.wide (fc.framed _ _ _ _ w _ V Mz λb hb=>fu.block b (hV b hb)) (λ_ => .inl),dM.dK fu⟩
def RI(w:X)(abe:aV)(g:Nat)(nodes:Int)(l:List Lb)(P:aO)(f t:Int)(A:aU)(m c:Nat)(bs:aT)(Vf:Mj w abe A m bs)(vt:m<=c)(iO:c<=dG)(sB:m<=1048576)(hf:iy nodes f=true)(ht:iy nodes t=true)(hl:l.length<64):ii W 213 #[g,aZ #[J f,J t,Z A m c]] (λe=>e=b5 (J 0)) (fc g nodes l P) (fc g nodes (l++[(f,t,bs)]) P) w:=by
 intro V hQ hV;have Mz:=hQ;obtain⟨I,v,q,R,D,ig,M9,hN,qD,hB,kN,h6,h7,h8⟩:=hQ;obtain⟨A0,c0,rfl,hI,iS,su⟩:=kN.jL;have fu:Grow w (w.alloc (.cells #[J f,J t,Z A m c] 172)):=(Below.refl (w:Nat) w).alloc (bh _) _;have mw:=eJ.made w 172 #[J f,J t,Z A m c];obtain⟨x,HX⟩:=az ((w:Nat):Nat);obtain⟨wa,HA⟩:=az (w.alloc (.cells #[J f,J t,Z A m c] 172):X);have HSA:Hid ((wa:Nat)=x+1):=Q (by rw[HA.out,HX.out];simp);rw[<-HA.out] at fu;have rz:eJ wa x 172 #[J f,J t,Z A m c]:=by rw[HA.out,HX.out];exact mw
 clear mw;have tV:=hB.grow fu;have x1:=rz.cell 1;have cq1:wa.cell? (g,1)=some (Z A0 q.length c0):=tV.cell 1;have Zz:q.length<64:=by rw[<-ig,bj] at hl;exact hl
 have J2:=Q ig;clear ig;go_in;go_wp2_with fail;rw[<-HA.out,<-HX.out];go_wp2_with (go_at_call 274;refine (sM wa g nodes _ _ _ tV).mono ?_;rintro e w2 ⟨rfl,sC⟩;subst sC);have NH:=kN.grow fu;have Y9:∀b∈q,l7 wa D b:=λb hb=>(h6 b hb).grow fu;have F6:=In.grow Vf fu;have pG:g<(wa:Nat):=tV.lt;have vu:¬ R g:=λh=>(h7 g h).2.1 rfl;have Z0:(w:Nat)<=x:=by have:=HX.out;omega
 have ZA:∀x,R x->x<(w:Nat):=λb hb=>hV b (h7 b hb).1;obtain⟨B,Yv⟩:=az ((wa:Nat):Nat);have Mi:∀x,R x->x<B:=λb hb=>by have:=ZA b hb;have:=Yv.out;have:=fu.size;omega
 have hxn:¬ R x:=λh=>by have:=ZA x h;omega
 have HB:∀w2,dM R wa w2->B<=(w2:Nat):=λw2 h=>Yv.out▸h.size;have gd:Grow wa wa.drew:=(Grow.refl wa).drew;have ja:Us x g f t A m c nodes A0 q.length c0 P wa.drew:=⟨rz.grow gd,tV.grow gd⟩;refine dJ rfl ?_;refine fC (Us x g f t A m c nodes A0 q.length c0 P) [9,10,11] 12 rfl [0,1,2,3,4,5] ?_;iterate 6 refine eV rfl ja (λw1 h R T=>by have k0:=h.1.cell 0;have k1:=h.1.cell 1;have k2:=h.1.cell 2;have k3:w1.cell? (g,1)=some (Z A0 q.length c0):=h.2.cell 1;go_simp;exact T) ?_
 have wo:dM R wa wa.drew:=dM.dK gd;refine eZ 6 [] rfl ?_;go_wp2_with fail;refine (NG (f,t,bs) (qH wa.drew abe ⟨f,t,A,m,c,bs⟩ ⟨In.grow F6 gd,vt,iO,sB⟩) (HB _ wo)).mono ?_;rintro en w2 ⟨v31,rfl,fk,hNG⟩;have k7:dM R wa w2:=wo.trans (dM.dK fk);go_wp2_with fail;refine⟨λ_=>⟨ja.1.grow fk,ja.2.grow fk⟩,?_⟩;refine eZ 7 [] rfl ?_;refine fV rfl (Ki (e:=172) Aa rS hNG (HB w2 k7) (λb hb=>NF (x := .tmp 31) rfl hb rfl)) ?_;intro v32 w3 hr;have mz:dM R wa w3:=k7.trans (dM.dK hr.1);go_wp2_with fail;refine⟨λ_=>⟨mz.blk rz hxn,mz.blk tV vu⟩,?_⟩;refine eZ 8 [] rfl ?_;refine fV rfl (CZ (abh:=λb:Lt=>b.abs=(f,t,bs)) (x := .tmp 29) (y := .tmp 32) sL Aa FY Mi (NH.grow (gd.trans (fk.trans hr.1))) hr.2 (HB w3 mz) ap rfl rfl rfl) ?_;rintro v33 w4 ⟨CG,hE⟩;have H:=mz.trans CG;go_wp2_with fail;refine⟨λ_=>⟨H.blk rz hxn,H.blk tV vu⟩,?_⟩;refine fY 9 rfl aw ?_;clear mz CG wo k7;obtain⟨b,R',D',e1,wI,vn,hRx,hDx⟩:=hE;obtain⟨A3,c3,hv3,_⟩:=wI.jL;subst hv3;have ky:=H.blk tV vu;have f1:=ky.frozen 1;have c11:w4.cell? (g,1)=some (Z A0 q.length c0):=ky.cell 1;go_wp2;go_ret;have Mw:B=(wa:Nat):=Yv.out;have hgas:=fu.size;have K3:=kD w4 g 1 (Z A3 (q.length+1) c3);have hBg:g<B:=by omega
 refine⟨rfl,⟨.inl I,Z A3 (q.length+1) c3,q++[b],R',λx=>D x∨D' x,?_,?_,hN,?_,?_,?_,λb' hb=>?_,λx Y=>?_,λx Y=>?_⟩,?_⟩;·rw[bI,J2.out,bQ,cQ,e1]
 ·rw[bd,bv];omega
 ·intro a ha
  rcases List.mem_append.1 ha with h|h
  ·exact qD a h
  ·rw[List.mem_singleton.1 h];exact⟨Db hf,Db ht⟩
 ·have:=ky.put 1 (Z A3 (q.length+1) c3)
  rwa [zM] at this
 ·rw[bd,bv]
  exact wI.just K3 λb hb h=>by
   have G:=hRx b hb;rw[show b=g from h] at G;rcases G.1 with L|L
   ·exact vu L
   ·omega
 ·rcases List.mem_append.1 hb with h|h
  ·exact (((Y9 b' h).just H λx Y hr=>(h7 x hr).2.2 Y).just K3 λx Y h=>(h8 x Y).2 h).mono λ_ => .inl
  ·rw[List.mem_singleton.1 h];exact (vn.just K3 λx Y h=>by have:=(hDx x Y).1;rw[show x=g from h] at this;omega).mono λ_ => .inr
 ·have G:=hRx x Y
  refine⟨?_,?_,λh=>?_⟩
  ·rcases G.1 with h|h
   ·exact .inl (h7 x h).1
   ·exact .inr ⟨by omega,by rw[gg];exact G.2.1⟩
  ·rcases G.1 with h|h
   ·exact (h7 x h).2.1
   ·omega
  ·rcases h with h|h
   ·rcases G.1 with L|L
    ·exact (h7 x L).2.2 h
    ·have:=hV x (h8 x h).1;omega
   ·exact G.2.2 h
 ·rcases Y with h|h
  ·exact⟨.inl (h8 x h).1,(h8 x h).2⟩
  ·have G:=hDx x h
   exact⟨.inr ⟨by omega,by rw[gg];exact G.2⟩,by have:=G.1;omega⟩
 ·exact ((dM.dK fu).trans (H.imp λx Y=>(h7 x Y).1)).trans (K3.imp λx Y=>by rw[show x=g from Y];exact I)
end Go.Proofs.YtpeepcmdehhbgaaGreatDoor.Ne
namespace Go.Hop
open RowKit
section
variable{P:dD}{t e:dC}{size bytes:Nat}{z:K}
theorem uA(abl:Elem P t e size bytes z)(w:X)(ty:Nat){A:aU}{k:Nat}{xs:List K}(Z1:Reads w B size A k xs)
 {B2:Nat} {A2:aU} {m c:Nat} {news:List K} (su:0<m) (hr:Reads w B2 size A2 m news) (I:∀u∈news,u.oneCell'=true) (fw:(k+m)*bytes<=140737488355328):∃v' O,(cn #[t,t] ty #[Z A k k,Z A2 m c]).run P w=.ok v' O∧Grow w O∧Own O (New w O) e size v' (k+m) (xs++news):=by
 obtain⟨i,hi,hz,hs,hb⟩:=abl.info;have Mu:k+m<=dG:=by have:=Nat.le_mul_of_pos_right (k+m) abl.bpos;simp only[dG];omega
 have fin:∀v' O,O.ownsRow (w:Nat) e size v' (k+m) (xs++news)->w.grownBy O none->Grow w O∧Own O (New w O) e size v' (k+m) (xs++news):=λv' O r1 r2=>
  ⟨⟨r2.os,r2.tape,r2.output,r2.size,λk N=>r2.block k N (by simp)⟩,Own.wO r1 λg H=>by
   rcases r1.2 with ⟨rfl,_⟩|⟨g',cap,cur,rfl,h5,h6,_⟩
   ·cases H
   ·cases H
    exact⟨h5,(Array.getElem?_eq_some_iff.1 h6).1⟩⟩
 obtain⟨ad,rfl,_,E⟩:=hr.2 su;cases A with
 | none=>
   have ja:k=0:=by
    rcases b_ k with h0|h0
    ·exact h0
    ·obtain⟨_,e,_⟩:=Z1.2 h0;cases e
   subst ja;obtain rfl:xs=[]:=bu (by simpa using Z1.1);obtain⟨v',O,eR,r1,r2,_⟩:=run_append_own_at (P:=P) w (w:Nat) t ty e i z size bytes abl.und hi hz hs hb abl.zs abl.pos (Z none 0 0) 0 [] (World.ownsRow_nil w _ e size) ad m c news hr.1 E I Mu fw (bh _);exact⟨v',O,eR,fin v' O r1 r2⟩
 | some a0=>
   have holds:∀j u,xs[j]?=some u->w.cell? (a0.add j)=some u:=by
    intro j u hu;have fS:0<k:=by
     rcases b_ k with h0|h0
     ·have:xs.length=0:=by rw[Z1.1,h0];simp
      rw[bu this] at hu;simp at hu
     ·exact h0
    obtain⟨Ze,e',_,XX⟩:=Z1.2 fS;injection e' with e';rw[e'];exact XX j u hu
   obtain⟨v',O,eR,r1,r2⟩:=run_append_arg_grows (P:=P) w t ty e i z size bytes abl.und hi hz hs hb abl.zs abl.pos a0 k k xs Z1.1 holds ad m c news hr.1 E ap Mu fw;exact⟨v',O,eR,fin v' O r1 r2⟩
end
end Go.Hop
namespace Go.Proofs.YtpeepcmdehhbgaaGreatDoor
open RowKit Hop
def nX(t nodes:Nat)(pr:List Bool)(ac:aN)(had:Nat)(best:K)(n:Nat):Array K:=(J t::J nodes::(pr.map Value.bool++(ac.map (Value.int .i64)++[J had,best,J n]))).toArray
section
variable{t nodes:Nat}{pr:List Bool}{ac:aN}{had:Nat}{best:K}{n:Nat}
def sY(hp:pr.length=8)(ha:ac.length=8):(nX t nodes pr ac had best n).size=21:=by simp[nX,hp,ha]
def ZB:(nX t nodes pr ac had best n)[0]?=some (J t):=by simp[nX]
def ZC:(nX t nodes pr ac had best n)[1]?=some (J nodes):=by simp[nX]
def ZD(hp:pr.length=8)(hi:i<8):(nX t nodes pr ac had best n)[2+i]?=some (aY (pr.getD i false)):=by
 have e:2+i=i+1+1:=by omega
 simp[nX,e,List.getElem?_append_left,hp,hi]
def ZE(hp:pr.length=8)(ha:ac.length=8)(hi:i<8):(nX t nodes pr ac had best n)[10+i]?=some (J (ac.getD i 0)):=by
 have e:10+i=(8+i)+1+1:=by omega
 simp[nX,e,List.getElem?_append_right,List.getElem?_append_left,hp,ha,hi]
def VY(hp:pr.length=8)(ha:ac.length=8):(nX t nodes pr ac had best n)[18]?=some (J had):=by simp[nX,hp,ha]
def VZ(hp:pr.length=8)(ha:ac.length=8):(nX t nodes pr ac had best n)[19]?=some best:=by simp[nX,hp,ha]
def V_(hp:pr.length=8)(ha:ac.length=8):(nX t nodes pr ac had best n)[20]?=some (J n):=by simp[nX,hp,ha]
def W0(hp:pr.length=8)(hi:i<8)(b:Bool):(nX t nodes pr ac had best n).setIfInBounds (2+i) (aY b)=nX t nodes (pr.set i b) ac had best n:=by
 have e:2+i=i+1+1:=by omega
 simp[nX,e,List.map_set,List.set_append_left,hp,hi]
def W3(hp:pr.length=8)(ha:ac.length=8)(hi:i<8)(b:Int):(nX t nodes pr ac had best n).setIfInBounds (10+i) (J b)=nX t nodes pr (ac.set i b) had best n:=by
 have e:10+i=(8+i)+1+1:=by omega
 simp[nX,e,List.map_set,List.set_append_left,List.set_append_right,hp,ha,hi]
def RJ(hp:pr.length=8)(ha:ac.length=8)(x:Nat):(nX t nodes pr ac had best n).setIfInBounds 18 (J x)=nX t nodes pr ac x best n:=by simp[nX,List.set_append_right,hp,ha]
def RL(hp:pr.length=8)(ha:ac.length=8)(x:K):(nX t nodes pr ac had best n).setIfInBounds 19 x=nX t nodes pr ac had x n:=by simp[nX,List.set_append_right,hp,ha]
def RN(hp:pr.length=8)(ha:ac.length=8)(x:Nat):(nX t nodes pr ac had best n).setIfInBounds 20 (J x)=nX t nodes pr ac had best x:=by simp[nX,List.set_append_right,hp,ha]
structure vb(w:X)(g t nodes:Nat)(pr:List Bool)(ac:List Int)(had:Nat)(best:K)(n:Nat):Prop where
 b:eJ w g 213 (nX t nodes pr ac had best n)
 p:pr.length=8
 a:ac.length=8
def vb.c0(h:vb w g t nodes pr ac had best n):w.cell? (g,0)=some (J t):=(h.b.cell 0).trans ZB
def vb.c1(h:vb w g t nodes pr ac had best n):w.cell? (g,1)=some (J nodes):=(h.b.cell 1).trans ZC
def vb.cp(h:vb w g t nodes pr ac had best n)(hi:i<8):w.cell? ⟨g,2+i,none⟩=some (aY (pr.getD i false)):=(h.b.cell _).trans (ZD h.p hi)
def vb.ca(h:vb w g t nodes pr ac had best n)(hi:i<8):w.cell? ⟨g,10+i,none⟩=some (J (ac.getD i 0)):=(h.b.cell _).trans (ZE h.p h.a hi)
def vb.c18(h:vb w g t nodes pr ac had best n):w.cell? (g,18)=some (J had):=(h.b.cell 18).trans (VY h.p h.a)
def vb.c19(h:vb w g t nodes pr ac had best n):w.cell? (g,19)=some best:=(h.b.cell 19).trans (VZ h.p h.a)
def vb.c20(h:vb w g t nodes pr ac had best n):w.cell? (g,20)=some (J n):=(h.b.cell 20).trans (V_ h.p h.a)
def Af(h:vb w g t nodes pr ac had best n)(i:Nat)(hi:i<nodes):dz W 118 #[g,J i] w λe O=>e=b5 (aY true)∧w=O:=by have I:=h.c1;go_in;go_wp2;go_ret;trivial
def RO(h:vb w g t nodes pr ac had best n):dz W 68 #[g] w λe O=>e=b5 (J t)∧w=O:=by have I:=h.c0;go_in;go_wp2;go_ret;trivial
def BQ(h:vb w g t nodes pr ac had best n)(hn:n<=8):dz W 69 #[g] w λe O=>e=b5 (aY (decide (nodes<2*n)))∧Grow w O:=by
 have I:=h.c1;have G:=h.c20;have hd:decide ((nodes:Int)<2*(n:Int))=decide (nodes<2*n):=decide_eq_decide.2 ap;replace hd:=Q hd;have wr:IntKind.i64.wrap (2*(n:Int))=2*(n:Int):=by rw[IntKind.wrap_i64];omega
 go_in;go_wp2_with fail;have k1:=λw1(H:Grow w w1)=>vb.c1 (w:=w1) ⟨h.b.grow H,h.p,h.a⟩;have k2:=λw1(H:Grow w w1)=>vb.c20 (w:=w1) ⟨h.b.grow H,h.p,h.a⟩;refine fh ?_;intro w1 H;clear k1 k2;go_wp2;go_ret;exact⟨by rw[<-hd.out];rfl,H⟩
def W4(w:X)(t nodes:Nat)(I:1<=nodes)(h8:nodes<=8):dz W 59 #[J t,J nodes] w λe O=>∃g,e=b5 (((g:Nat):K))∧Cell g 213 (nX t nodes (cS 8 false) (cS 8 0) 0 (Z none 0 0) 0) O (New w O)∧Grow w O:=by
 have d1:decide ((nodes:Int) >= 1)=true:=aC ap;have d2:decide ((nodes:Int)<=8)=true:=aC ap;have hr:dz W 116 #[J nodes] w λe O=>e=b5 (aY true)∧w=O:=by go_in;go_wp2;go_ret;trivial
 go_in;go_wp2_with fail;refine hr.mono ?_;rintro e w1 ⟨rfl,rfl⟩;go_wp2;go_ret;exact⟨_,rfl,⟨⟨bh _,by simp⟩,eJ.made w 213 (nX t nodes (cS 8 false) (cS 8 0) 0 (Z none 0 0) 0)⟩,fb w _⟩
end
end Go.Proofs.YtpeepcmdehhbgaaGreatDoor
namespace Go.Proofs.YtpeepcmdehhbgaaGreatDoor.Ne
open RowKit Hop
theorem pd(w:X)(R:aV)(A:aU)(n c i:Nat)(xs:List K)(h:Row w R 172 3 (Z A n c) n xs)(hi:i<n)(hn:n<=1048576)(rI:∀u∈xs,u.oneCell'=true):dz W 212 #[Z A n c,J i,J ((i:Int)+1)] w λe O=>e=b5 (Z A (n-1) c)∧Row O R 172 3 (Z A (n-1) c) (n-1) (xs.take (i*3)++xs.drop ((i+1)*3))∧dM R w O:=by
 obtain⟨fj,h|⟨g,cap,cur,e1,hV,H,iS,hm,iZ,j9⟩⟩:=h;·omega
 injection e1 with e1 _ e3;subst e1 e3;obtain⟨A2,HA2⟩:=az (if c=i+1 then some (g,0) else some ⟨g,(i+1)*3,none⟩:Option dA);have pK:(xs.drop ((i+1)*3)).length=(n-(i+1))*3:=by rw[bO,fj];omega
 have ia:∀j,w.cell? ⟨g,j,none⟩=cur[j]?:=λj=>cell_of_row w g j cur 172 (0,0) H;have hcx:∀j u,xs[j]?=some u->cur[j]?=some u:=λj u hu=>by
  rw[<-j9,List.getElem?_take] at hu;split at hu;·simpa using hu
  ·cases hu
 have rx:∀w1,Grow w w1->Reads w1 (w1:Nat) 3 A2 (n-(i+1)) (xs.drop ((i+1)*3)):=λw1 gP=>by refine⟨pK,λzD=>⟨⟨g,(i+1)*3,none⟩,by rw[HA2.out,aB ap],bw (Array.getElem?_eq_some_iff.1 H).1 gP.size,λj u hu=>?_⟩⟩;rw[List.getElem?_drop] at hu;rw[Addr.add_lit,gP.cell (show g<(w:Nat) from (Array.getElem?_eq_some_iff.1 H).1),ia];exact hcx _ u hu
 have hci:i<=c:=by omega
 have hni:¬ (n:Int)<(i:Int)+1:=by omega
 have a41:¬ (i:Int)+1<0:=by omega
 have jU:=H;go_in;go_wp2_with fail;have c0:=HA2.out.symm;go_still_tail 6,(by kernel_rfl);change wpList _ _ _ _ _ w.drew;generalize wv:w.drew=w1;have H:Grow w w1:=wv▸(Grow.refl w).drew;clear c0 wv;have eD:w1.heap[g]?=some (.cells cur 172 (0,0)):=(H.block g (Array.getElem?_eq_some_iff.1 jU).1).trans jU;have Iw:i+(n-(i+1))=n-1:=by omega
 refine pS rfl (.tmp 22) (.tmp 25) rfl rfl rfl (pw sL w1 _ eD (rx w1 H) (λu hu=>rI u (cX hu)) ap (by rw[Iw,iZ];omega)) ?_;rw[Iw];obtain⟨BR,k1,k2,k3⟩:=iC g 172 (0,0) (xs.drop ((i+1)*3)) (i*3) w1 cur eD (by rw[pK,<-Nat.add_mul,Iw,iZ];omega);have kv:=gM g (xs.drop ((i+1)*3)) (i*3) w1;have Ql:=setCells_size g (xs.drop ((i+1)*3)) (i*3) w1;generalize w1.setCells g (i*3) (xs.drop ((i+1)*3))=w2 at k1 kv Ql ⊢;have HK:=Q (And.intro k2 k3);have HD:=Q pK;have HZ:=Q iZ;have HKM:=Q Iw;have HL:=Q fj;have HT:=Q j9;clear k2 k3 pK iZ Iw fj j9 Ql hcx ia rx;have hcn:¬ c=n-1:=by omega
 have a43:¬ n<n-1:=by omega
 have oK:n-(n-1)=1:=by omega
 have za:∀ty,(Builtin.clear_ #[86] ty #[Z (some ⟨g,(n-1)*3,none⟩) (n-(n-1)) (c-(n-1))]).run W w2=.ok (a_ #[]) (w2.setCells g ((n-1)*3) (bM (aZ aL:K).cells 1).toList):=λty=>by rw[oK];refine j_ sL (sG sL) (by simp[Value.cells,Value.oneCell']) w2 ty g ((n-1)*3) 1 _ ap (λj hj=>?_) (λj hj=>eJ.frozen (show eJ w2 g 172 BR from k1) _);have:=HK.out.1;have:=HZ.out;rw[cell_of_row w2 g _ BR 172 (0,0) k1,Array.getElem?_eq_getElem ap];rfl
 have YS:(bM (aZ aL:K).cells 1).toList.length=3:=by kernel_rfl
 obtain⟨W5,m1,m2,m3⟩:=iC g 172 (0,0) (bM (aZ aL:K).cells 1).toList ((n-1)*3) w2 BR k1 (by rw[YS];have:=HK.out.1;have:=HZ.out;omega);have sw:=gM g (bM (aZ aL:K).cells 1).toList ((n-1)*3) w2;generalize w2.setCells g ((n-1)*3) (bM (aZ aL:K).cells 1).toList=w3 at za m1 sw;have HM:=Q (And.intro m2 m3);clear m2 m3 YS oK;go_wp2;go_ret;have hj:dM R w w3:=(dM.dK H).trans (dM.jA (kv.trans sw) hV);obtain⟨k2,k3⟩:=HK.out;obtain⟨m2,m3⟩:=HM.out;have fj:=HL.out;have pK:=HD.out;have iZ:=HZ.out;have Iw:=HKM.out;have j9:=HT.out;have hti:cur.toList.take (i*3)=xs.take (i*3):=by rw[<-j9,List.take_take,cz ap]
 have W6:(xs.take (i*3)).length=i*3:=by rw[bn];omega
 have Be:(xs.take (i*3)++xs.drop ((i+1)*3)).length=(n-1)*3:=by rw[bd,W6,pK];omega
 refine⟨rfl,⟨Be,.inr ⟨g,c,W5,rfl,hV,m1,by omega,hm,by rw[m2,k2,iZ],?_⟩⟩,hj⟩;have I:BR.toList.take ((n-1)*3)=xs.take (i*3)++xs.drop ((i+1)*3):=by rw[k3,hti,<-Be];exact List.take_left
 rw[m3,I,bp,<-Be];exact List.take_left
def minus(l:List Lb)(i:Nat):List Lb:=l.take i++l.drop (i+1)
def Ah{w1 w2:X}{V R D:aV}{q:List Lt}{l:List Lb}{A0:aU}{c0:Nat}(I:V g)(ig:q.map Lt.abs=l)(M9:q.length<=64)(hN:1<=nodes∧nodes<=8)(qD:∀a∈l,Zm nodes a)
 (ky:eJ w1 g 170 (oT nodes (Z A0 q.length c0) P)) (h6:∀b∈q,l7 w1 D b) (h7:∀b,R b->V b∧b≠g∧¬ D b) (h8:∀b,D b->V b∧b≠g) (hi:i<q.length) (H:Grow w w1)
 (gS:Row w2 R 172 3 (Z A0 (q.length-1) c0) (q.length-1) ((q.flatMap Lt.cells).take (i*3)++(q.flatMap Lt.cells).drop ((i+1)*3))) (k7:dM R w1 w2):fc g nodes (minus l i) P (w2.setCell (g,1) (Z A0 (q.length-1) c0)) V∧dM V w (w2.setCell (g,1) (Z A0 (q.length-1) c0)):=by
 have vu:¬ R g:=λh=>(h7 g h).2.1 rfl;have lS:=k7.blk ky vu;have W7:(q.take i++q.drop (i+1)).length=q.length-1:=by rw[bd,bn,bO];omega
 have jQ:(q.take i++q.drop (i+1)).flatMap Lt.cells=(q.flatMap Lt.cells).take (i*3)++(q.flatMap Lt.cells).drop ((i+1)*3):=by rw[bL,ki Lt.cells 3 rS,ob Lt.cells 3 rS]
 have m9:∀b∈q.take i++q.drop (i+1),b∈q:=λb hb=>by
  rcases List.mem_append.1 hb with h|h
  ·exact bW h
  ·exact cX h
 have K3:=kD w2 g 1 (Z A0 (q.length-1) c0);refine⟨⟨I,Z A0 (q.length-1) c0,q.take i++q.drop (i+1),R,D,?_,by omega,hN,λa ha=>qD a ?_,?_,?_,λb hb=>?_,h7,h8⟩,?_⟩;·rw[bI,List.map_take,List.map_drop,ig];rfl
 ·unfold minus at ha
  rcases List.mem_append.1 ha with h|h
  ·exact bW h
  ·exact cX h
 ·have:=lS.put 1 (Z A0 (q.length-1) c0)
  rwa [zM] at this
 ·rw[W7,jQ]
  exact gS.just K3 λb hb e=>vu (by rw[<-show b=g from e];exact hb)
 ·exact ((h6 b (m9 b hb)).just k7 λx Y hr=>(h7 x hr).2.2 Y).just K3 λx Y e=>(h8 x Y).2 e
 ·exact ((dM.dK H).trans (k7.imp λx Y=>(h7 x Y).1)).trans (K3.imp λx Y=>by rw[show x=g from Y];exact I)
def NI(w:X)(g:Nat)(nodes:Int)(l:List Lb)(P:aO)(i:Nat)(h:i<l.length):ii W 153 #[g,J i] (λe=>e=b5 (J 0)) (fc g nodes l P) (fc g nodes (minus l i) P) w:=by
 intro V ⟨I,v,q,R,D,ig,M9,hN,qD,hB,kN,h6,h7,h8⟩ hV;obtain⟨A0,c0,rfl,hI,iS,su⟩:=kN.jL;have hi:i<q.length:=by rw[<-ig,bj] at h;exact h
 have hq:iy (q.length:Int) (i:Int)=true:=oh ap;have J2:=Q ig;have vu:¬ R g:=λh=>(h7 g h).2.1 rfl;clear ig h;have c1:w.cell? (g,1)=some (Z A0 q.length c0):=hB.cell 1;go_in;go_wp2_with (go_at_call 211;refine (qI w g nodes _ _ _ _ _ hB).mono ?_;rintro e w2 ⟨rfl,sC⟩;subst sC);go_at_call 212;refine (pd w R A0 q.length c0 i _ kN hi ap (IK q)).mono ?_;rintro e w2 ⟨rfl,gS,k7⟩;have lS:=k7.blk hB vu;have f1:=lS.frozen 1;have c2:w2.cell? (g,1)=some (Z A0 q.length c0):=lS.cell 1;go_wp2;go_ret;obtain⟨a,b⟩:=Ah I J2.out M9 hN qD hB h6 h7 h8 hi (Grow.refl w) gS k7;exact⟨rfl,a.wide (λ_ => .inl),b⟩
def J7(nodes:Int)(l:List Lb)(f t:Int):Int:=if iy nodes f=false then 23 else if iy nodes t=false then 23 else if 64<=l.length then 24 else 0
def J8(nodes:Int)(l:List Lb)(a:Lb):List Lb:=if J7 nodes l a.1 a.2.1=0 then l++[a] else l
theorem NJ(w:X)(abe:aV)(g:Nat)(nodes:Int)(l:List Lb)(P:aO)(f t:Int)(A:aU)(m c:Nat)(bs:aT)(Vf:Mj w abe A m bs)(vt:m<=c)(iO:c<=dG)(sB:m<=1048576):ii W 213 #[g,aZ #[J f,J t,Z A m c]] (λe=>e=b5 (J (J7 nodes l f t))) (fc g nodes l P) (fc g nodes (J8 nodes l (f,t,bs)) P) w:=by
 unfold J8 J7;cases hf:iy nodes f with
 | false=>simp only[if_true];exact VW w g nodes l P f t A m c hf
 | true=>
   cases ht:iy nodes t with
   | false=>simp only[Bool.true_eq_false,if_true,if_false];exact VX w g nodes l P f t A m c hf ht
   | true=>
     by_cases h:64<=l.length;·simp only[Bool.true_eq_false,if_false,aA h];exact KE w g nodes l P f t A m c hf ht h
     ·simp only[Bool.true_eq_false,if_false,aB h,if_true];exact RI w abe g nodes l P f t A m c bs Vf vt iO sB hf ht ap
def Deliver_no(w:X)(g:Nat)(nodes:Int)(l:List Lb)(P:aO)(i:Int)(h:iy (l.length:Int) i=false):ii W 209 #[g,J i] (λe=>e=b5 (a_ #[aZ aL,J 23])) (fc g nodes l P) (fc g nodes l P) w:=by
 intro V hQ hV;obtain⟨A,c,q,HQ,HL,M9,hN,qD,hB,hI,iS,iO⟩:=hQ.lts;have hq:iy (q.length:Int) i=false:=by rw[<-HL.out];exact h
 have fu:Grow w (w.alloc (.cells aL 172)):=(Below.refl (w:Nat) w).alloc (bh _) _;have mw:=eJ.made w 172 aL;obtain⟨x,HX⟩:=az ((w:Nat):Nat);obtain⟨wa,HA⟩:=az (w.alloc (.cells aL 172):X);rw[<-HA.out] at fu;have rz:eJ wa x 172 aL:=by rw[HA.out,HX.out];exact mw
 have f0:=rz.frozen 0;have f1:=rz.frozen 1;have f2:=rz.frozen 2;have x0:=rz.cell 0;have x1:=rz.cell 1;have x2:=rz.cell 2;have Z0:(w:Nat)<=x:=by have:=HX.out;omega
 go_in;go_wp2_with fail;rw[<-HA.out,<-HX.out];go_wp2_with (go_at_call 211;refine (qI wa g nodes _ _ _ _ _ (hB.grow fu)).mono ?_;rintro e w2 ⟨rfl,sC⟩;subst sC);have hE:=((rz.put 0 (J 0)).put 1 (J 0)).put 2 (Z none 0 0);have e0:=hE.cell 0;have e1:=hE.cell 1;have e2:=hE.cell 2;have hj:dM (λb=>b=x) wa (((wa.setCell (x,0) (J 0)).setCell (x,1) (J 0)).setCell (x,2) (Z none 0 0)):=(((dM.dK (Grow.refl wa)).put (V:=λb=>b=x) rfl 0 _).put rfl 1 _).put rfl 2 _
 have jU:Grow w (((wa.setCell (x,0) (J 0)).setCell (x,1) (J 0)).setCell (x,2) (Z none 0 0)):=Below.trans fu (hj.below (B:=(w:Nat)) (λb hb=>by rw[hb];exact Z0) fu.size);refine bodyPost_ret (v := a_ #[aZ aL,J 23]) (by simp[results,Tryz.results209,go_sem,e0,e1,e2]) rfl ⟨rfl,fc.wide (fc.framed _ _ _ _ w _ V hQ λb hb=>jU.block b (hV b hb)) (λ_ => .inl),dM.dK jU⟩
def Taken(g:Nat)(nodes:Int)(l:List Lb)(P:aO)(bs:aT)(i:Option dA×Nat×Nat):dW:=λw V=>fc g nodes l P w V∧Mj w V i.1 i.2.1 bs∧i.2.1<=i.2.2∧i.2.2<=dG
theorem Taken.framed(g:Nat)(nodes:Int)(l:List Lb)(P:aO)(bs:aT)(i:Option dA×Nat×Nat):eu (Taken g nodes l P bs i):=λw O V h N=>
 ⟨fc.framed g nodes l P w O V h.1 N,In.keep h.2.1 λb hb _=>N b hb,h.2.2⟩
def NK{g:Nat}{l:List Lb}{P:aO}{q:List Lt}(ig:q.map Lt.abs=l)(hN:1<=nodes∧nodes<=8)(qD:∀a∈l,Zm nodes a)(hi:i<q.length):∃(fa ta:Nat)(hl:i<l.length),q[i].f=(fa:Int)∧q[i].t=(ta:Int)∧fa<8∧ta<8∧l[i]=((fa:Int),(ta:Int),q[i].bs):=by
 subst ig;have hl:i<(q.map Lt.abs).length:=by rw[bj];exact hi
 have h0:=qD _ (bF hl);rw[di] at h0;obtain⟨⟨a1,a2⟩,⟨a3,a4⟩⟩:=h0;have a1:0<=q[i].f:=a1;have a2:q[i].f<nodes:=a2;have a3:0<=q[i].t:=a3;have a4:q[i].t<nodes:=a4;refine⟨q[i].f.toNat,q[i].t.toNat,hl,by omega,by omega,by omega,by omega,?_⟩;rw[di];unfold Lt.abs;rw[show ((q[i].f.toNat:Nat):Int)=q[i].f by omega,show ((q[i].t.toNat:Nat):Int)=q[i].t by omega]
def Dy(w:X)(g:Nat)(nodes:Int)(l:List Lb)(P:aO)(i:Nat)(h:i<l.length)(sx:P (l[i].1.toNat*8+l[i].2.1.toNat)=true):ii W 209 #[g,J i] (λe=>e=b5 (a_ #[aZ aL,J 26])) (fc g nodes l P) (fc g nodes l P) w:=by
 intro V hQ hV;have Mz:=hQ;obtain⟨I,v,q,R,D,ig,M9,hN,qD,hB,kN,h6,h7,h8⟩:=hQ;obtain⟨A,c,rfl,hI,iS,iO⟩:=kN.jL;have hi:i<q.length:=by rw[<-ig,bj] at h;exact h
 have hq:iy (q.length:Int) (i:Int)=true:=oh ap;obtain⟨fa,ta,_,ef,et,QM,hta,YV⟩:=NK (g:=g) (P:=P) ig hN qD hi;rw[YV] at sx;have hp:P (fa*8+ta)=true:=by simpa using sx
 obtain⟨ad,hiq,rfl,_,_,e0,e12⟩:=hI.mr ap rS hi;have kT:=h6 _ (bF hiq);have e0:=e0 _ rfl;have e1:=e12 0 _ rfl;have e2:=e12 1 _ rfl;clear e12 YV sx ig;rw[ef] at e0;rw[et] at e1;have uV:Mj w D q[i].A q[i].m q[i].bs:=kT.bs;have KF:=kT.le;have RP:=kT.max;clear ef et kT;generalize q[i].bs=bs at uV;generalize q[i].A=Ab at uV e2;generalize q[i].m=mb at uV e2 KF;generalize q[i].c=cb at e2 KF RP;have fu:Grow w (w.alloc (.cells aL 172)):=(Below.refl (w:Nat) w).alloc (bh _) _;have mw:=eJ.made w 172 aL;obtain⟨x,HX⟩:=az ((w:Nat):Nat);obtain⟨wa,HA⟩:=az (w.alloc (.cells aL 172):X);have TQ:(wa:Nat)=x+1:=by rw[HA.out,HX.out];simp
 have fa8:¬ (8:Int)<=(fa:Int):=by omega
 have ta8:¬ (8:Int)<=(ta:Int):=by omega
 rw[<-HA.out] at fu;have rz:eJ wa x 172 aL:=by rw[HA.out,HX.out];exact mw
 have Z0:(w:Nat)<=x:=by have:=HX.out;omega
 have mK:Grow wa (wa.alloc (.cells #[J fa,J ta,Z Ab mb cb] 172)):=(Below.refl _ _).alloc (bh _) _;have NL:=eJ.made wa 172 #[J fa,J ta,Z Ab mb cb];obtain⟨y,HY⟩:=az ((wa:Nat):Nat);obtain⟨wb,W8⟩:=az (wa.alloc (.cells #[J fa,J ta,Z Ab mb cb] 172):X);rw[<-W8.out] at mK;have gU:eJ wb y 172 #[J fa,J ta,Z Ab mb cb]:=by rw[W8.out,HY.out];exact NL
 have W9:=rz.grow mK;have KG:=fu.trans mK;have tV:=hB.grow KG;have Mk:=(fu.cell (p:=ad.add (i*3)) (by rw[block_add];assumption)).trans e0;have Ut:=(fu.cell (p:=⟨(ad.add (i*3)).block,(ad.add (i*3)).off+1,none⟩) (show (ad.add (i*3)).block<_ by rw[block_add];assumption)).trans e1;have ce2:=(fu.cell (p:=⟨(ad.add (i*3)).block,(ad.add (i*3)).off+2,none⟩) (show (ad.add (i*3)).block<_ by rw[block_add];assumption)).trans e2;have c1:wa.cell? (g,1)=some (Z (some ad) q.length c):=(hB.grow fu).cell 1;clear mw NL e0 e1 e2;go_in;go_wp2_with fail;rw[<-HA.out,<-HX.out];go_wp2_with (go_at_call 211;refine (qI wa g nodes _ _ _ _ _ (hB.grow fu)).mono ?_;rintro e w2 ⟨rfl,sC⟩;subst sC);have JV:x+1=y:=by rw[HY.out,TQ]
 rw[JV,<-W8.out];clear Mk Ut ce2 c1 JV TQ;have c0:=λw1(H:Grow _ w1)=>(gU.grow H).cell 0;have c1:=λw1(H:Grow _ w1)=>(gU.grow H).cell 1;have c2:=λw1(H:Grow _ w1)=>(show w1.cell? ⟨g,2+fa*8+ta,none⟩=some (aY true) by have c:=(tV.grow H).cell (2+fa*8+ta);rw[Nat.add_assoc,N0 _ _ _ ap,hp] at c;rw[<-Nat.add_assoc] at c;exact c);refine fh ?_;intro w1 H;clear c0 c1 c2;have Cy:=W9.grow H;have f0:=Cy.frozen 0;have f1:=Cy.frozen 1;have f2:=Cy.frozen 2;have x0:=Cy.cell 0;have x1:=Cy.cell 1;have x2:=Cy.cell 2;go_wp2_with fail;have hE:=((Cy.put 0 (J 0)).put 1 (J 0)).put 2 (Z none 0 0);have e0:=hE.cell 0;have e1:=hE.cell 1;have e2:=hE.cell 2;have hj:dM (λb=>b=x) w1 (((w1.setCell (x,0) (J 0)).setCell (x,1) (J 0)).setCell (x,2) (Z none 0 0)):=(((dM.dK (Grow.refl w1)).put (V:=λb=>b=x) rfl 0 _).put rfl 1 _).put rfl 2 _
 have jU:Grow w (((w1.setCell (x,0) (J 0)).setCell (x,1) (J 0)).setCell (x,2) (Z none 0 0)):=Below.trans (KG.trans H) (hj.below (B:=(w:Nat)) (λb hb=>by rw[hb];exact Z0) (KG.trans H).size);refine bodyPost_ret (v := a_ #[aZ aL,J 26]) (by simp[results,Tryz.results209,go_sem,e0,e1,e2]) rfl ⟨rfl,fc.wide (fc.framed _ _ _ _ w _ V Mz λb hb=>jU.block b (hV b hb)) (λ_ => .inl),dM.dK jU⟩
def Dz(w:X)(g:Nat)(nodes:Int)(l:List Lb)(P:aO)(i:Nat)(h:i<l.length)(sx:P (l[i].1.toNat*8+l[i].2.1.toNat)=false):∀V:aV,fc g nodes l P w V->(∀b,V b->b<(w:Nat))->dz W 209 #[g,J i] w λe O=>∃j:Option dA×Nat×Nat,e=b5 (a_ #[aZ #[J l[i].1,J l[i].2.1,Z j.1 j.2.1 j.2.2],()])∧Taken g nodes (minus l i) P l[i].2.2 j O (iY V w O)∧dM V w O:=by
 intro V hQ hV;obtain⟨I,v,q,R,D,ig,M9,hN,qD,hB,kN,h6,h7,h8⟩:=hQ;obtain⟨A,c,rfl,hI,iS,iO⟩:=kN.jL;have hi:i<q.length:=by rw[<-ig,bj] at h;exact h
 have hq:iy (q.length:Int) (i:Int)=true:=oh ap;obtain⟨fa,ta,_,ef,et,QM,hta,YV⟩:=NK (g:=g) (P:=P) ig hN qD hi;rw[YV] at sx ⊢;have hp:P (fa*8+ta)=false:=by simpa using sx
 have vu:¬ R g:=λh=>(h7 g h).2.1 rfl;obtain⟨ad,hiq,rfl,_,_,e0,e12⟩:=hI.mr ap rS hi;have kT:=h6 _ (bF hiq);have e0:=e0 _ rfl;have e1:=e12 0 _ rfl;have e2:=e12 1 _ rfl;have J2:=Q ig;clear e12 YV sx ig;rw[ef] at e0;rw[et] at e1;have uV:Mj w D q[i].A q[i].m q[i].bs:=kT.bs;have KF:=kT.le;have RP:=kT.max;clear ef et kT;generalize q[i].bs=bs at uV ⊢;generalize q[i].A=Ab at uV e2;generalize q[i].m=mb at uV e2 KF;generalize q[i].c=cb at e2 KF RP;have fu:Grow w (w.alloc (.cells aL 172)):=(Below.refl (w:Nat) w).alloc (bh _) _;have mw:=eJ.made w 172 aL;obtain⟨x,HX⟩:=az ((w:Nat):Nat);obtain⟨wa,HA⟩:=az (w.alloc (.cells aL 172):X);have TQ:(wa:Nat)=x+1:=by rw[HA.out,HX.out];simp
 have fa8:¬ (8:Int)<=(fa:Int):=by omega
 have ta8:¬ (8:Int)<=(ta:Int):=by omega
 rw[<-HA.out] at fu;have rz:eJ wa x 172 aL:=by rw[HA.out,HX.out];exact mw
 have Z0:(w:Nat)<=x:=by have:=HX.out;omega
 have mK:Grow wa (wa.alloc (.cells #[J fa,J ta,Z Ab mb cb] 172)):=(Below.refl _ _).alloc (bh _) _;have NL:=eJ.made wa 172 #[J fa,J ta,Z Ab mb cb];obtain⟨y,HY⟩:=az ((wa:Nat):Nat);obtain⟨wb,W8⟩:=az (wa.alloc (.cells #[J fa,J ta,Z Ab mb cb] 172):X);rw[<-W8.out] at mK;have gU:eJ wb y 172 #[J fa,J ta,Z Ab mb cb]:=by rw[W8.out,HY.out];exact NL
 have W9:=rz.grow mK;have KG:=fu.trans mK;have tV:=hB.grow KG;have Mk:=(fu.cell (p:=ad.add (i*3)) (by rw[block_add];assumption)).trans e0;have Ut:=(fu.cell (p:=⟨(ad.add (i*3)).block,(ad.add (i*3)).off+1,none⟩) (show (ad.add (i*3)).block<_ by rw[block_add];assumption)).trans e1;have ce2:=(fu.cell (p:=⟨(ad.add (i*3)).block,(ad.add (i*3)).off+2,none⟩) (show (ad.add (i*3)).block<_ by rw[block_add];assumption)).trans e2;have c1:wa.cell? (g,1)=some (Z (some ad) q.length c):=(hB.grow fu).cell 1;clear mw NL e0 e1 e2;go_in;go_wp2_with fail;rw[<-HA.out,<-HX.out];go_wp2_with (go_at_call 211;refine (qI wa g nodes _ _ _ _ _ (hB.grow fu)).mono ?_;rintro e w2 ⟨rfl,sC⟩;subst sC);have JV:x+1=y:=by rw[HY.out,TQ]
 rw[JV,<-W8.out];have hyw:(w:Nat)<=y:=by omega
 clear Mk Ut ce2 c1 JV TQ;have c0:=λw1(H:Grow _ w1)=>(gU.grow H).cell 0;have c1:=λw1(H:Grow _ w1)=>(gU.grow H).cell 1;have c2:=λw1(H:Grow _ w1)=>(show w1.cell? ⟨g,2+fa*8+ta,none⟩=some (aY false) by have c:=(tV.grow H).cell (2+fa*8+ta);rw[Nat.add_assoc,N0 _ _ _ ap,hp] at c;rw[<-Nat.add_assoc] at c;exact c);refine fh ?_;intro w1 H;clear c0 c1 c2;have eD:=KG.trans H;have ky:=hB.grow eD;have c1:w1.cell? (g,1)=some (Z (some ad) q.length c):=ky.cell 1;go_wp2_with fail;refine (pd w1 R (some ad) q.length c i _ (kN.grow eD) hi ap (IK q)).mono ?_;rintro e w2 ⟨rfl,gS,k7⟩;have lS:=k7.blk ky vu;have f1:=lS.frozen 1;have c2:w2.cell? (g,1)=some (Z (some ad) q.length c):=lS.cell 1;obtain⟨hN3,Vg⟩:=Ah I J2.out M9 hN qD ky (λb hb=>(h6 b hb).grow eD) h7 h8 hi eD gS k7;have K3:=kD w2 g 1 (Z (some ad) (q.length-1) c);have ZF:Mj (w2.setCell (g,1) (Z (some ad) (q.length-1) c)) D Ab mb bs:=In.just (In.just (In.grow uV eD) k7 λb hb hr=>(h7 b hr).2.2 hb) K3 λb hb e=>(h8 b hb).2 e;have vR:g≠x:=by have:=hB.lt;omega
 have ZG:g≠y:=by have:=hB.lt;omega
 have hxR:¬ R x:=λh=>by have:=hV x (h7 x h).1;omega
 have hyR:¬ R y:=λh=>by have:=hV y (h7 y h).1;omega
 have Fc:=(k7.blk (W9.grow H) hxR).far (p:=⟨g,1,none⟩) vR.symm (Z (some ad) (q.length-1) c);have Wa:=(k7.blk (gU.grow H) hyR).far (p:=⟨g,1,none⟩) ZG.symm (Z (some ad) (q.length-1) c);have Mb:=gg w2 (g,1) (Z (some ad) (q.length-1) c);obtain⟨w3,HW3⟩:=az (w2.setCell (g,1) (Z (some ad) (q.length-1) c):X);have y0:=Wa.cell 0;have y1:=Wa.cell 1;have y2:=Wa.cell 2;have x0:=Fc.cell 0;have x1:=Fc.cell 1;have x2:=Fc.cell 2;have f30:=Fc.frozen 0;have f31:=Fc.frozen 1;have f32:=Fc.frozen 2;go_wp2_with fail;rw[<-HW3.out] at hN3 Vg ZF Fc Mb ⊢;have hE:=((Fc.put 0 (J fa)).put 1 (J ta)).put 2 (Z Ab mb cb);have e0:=hE.cell 0;have e1:=hE.cell 1;have e2:=hE.cell 2;have hj:dM (λb=>b=x) w3 (((w3.setCell (x,0) (J fa)).setCell (x,1) (J ta)).setCell (x,2) (Z Ab mb cb)):=(((dM.dK (Grow.refl w3)).put (V:=λb=>b=x) rfl 0 _).put rfl 1 _).put rfl 2 _
 have iZ:((((w3.setCell (x,0) (J fa)).setCell (x,1) (J ta)).setCell (x,2) (Z Ab mb cb))).heap.size=(w3:Nat):=by rw[gg,gg,gg]
 refine bodyPost_ret (v := a_ #[aZ #[J fa,J ta,Z Ab mb cb],()]) (by simp[results,Tryz.results209,go_sem,e0,e1,e2]) rfl ⟨(Ab,mb,cb),rfl,⟨?_,?_,KF,RP⟩,?_⟩
 ·refine fc.wide (fc.framed _ _ _ _ w3 _ V hN3 λb hb=>hj.block b ?_ λh=>?_) λ_ => .inl
  ·have:=hV b hb;have:=Vg.size;omega
  ·have:=hV b hb;rw[show b=x from h] at this;omega
 ·refine In.mono (V:=D) (In.just ZF hj λb hb h=>?_) λb hb => .inl (h8 b hb).1
  have:=hV b (h8 b hb).1;rw[show b=x from h] at this;omega
 ·exact⟨hj.os.trans Vg.os,hj.tape.trans Vg.tape,hj.output.trans Vg.output,bB Vg.size hj.size,λk N hv=>(hj.block k (bw N Vg.size) (λh=>by rw[show k=x from h] at N;omega)).trans (Vg.block k N hv)⟩
end Go.Proofs.YtpeepcmdehhbgaaGreatDoor.Ne
end
