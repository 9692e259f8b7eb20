/- Lname, Vref, Vrget, Vcut, Vcut2, Lprint, Cat, Fbytes, Fread, Frread, Splain, Scan. -/
import Derived.Test.YtpeepcmdehhbgaaGreatDoorJs03
import Derived.Lib.Bytealg
import Derived.Test.YtpeepcmdehhbgaaGreatDoorJs04
import Derived.Lib.AppendZeros
set_option linter.all false
set_option maxRecDepth 100000
set_option maxHeartbeats 2000000
open Go.Value renaming int->ae,slice->Z,string->aX,bool->aY,agg->aZ,tuple->a_
open Go.Ending renaming returned->b5
open Go.IntKind renaming i64->af,u64->ah
open Go (J az aE aA aB aC aD ay aj am ap aw aL aK aJ aI aH aV aU aT aR aQ aP aO aN)
open Go.Proofs.Tryz renaming prog->W,underlying9->cW,underlying23->d9,underlying3->dp
open Go.Lib renaming hid->Q
open List renaming length_append->bd,length_map->bj,append_nil->bm,length_take->bn,append_assoc->bp,take_succ_eq_append_getElem->br,length_cons->bD,getElem_mem->bF,take_of_length_le->bH,map_append->bI,flatMap_cons->bJ,flatMap_append->bL,length_drop->bO,mem_cons_of_mem->bR,nil_append->ch,mem_cons_self->cj,flatMap_nil->cE,not_mem_nil->cF,mem_cons->cI,prefix_append->cL,take_append_drop->dt
open Nat renaming le_refl->bh,zero_le->bo,le_trans->bB,eq_zero_or_pos->b_,zero_add->cJ,mul_one->cM
open Go.Builtin renaming zeroCells->bM
open Bool renaming and_eq_true->bU
open Array renaming length_toList->bZ
open Go renaming Value->K,World->X,Calls->dz,Addr->dA,maxLen->dG
variable{k:Nat}{l t t':aT}{s:aR}{xs:List (List UInt8)}{w:X}{V:aV}
namespace Go.Proofs.YtpeepcmdehhbgaaGreatDoor.abn
open RowKit Hop
def Kq(c:Nat):Bool:=(decide (97<=c)&&decide (c<=122))||(decide (48<=c)&&decide (c<=57))||decide (c=95)
def VL(c:Nat):Kq c=true↔(97<=c∧c<=122)∨(48<=c∧c<=57)∨c=95:=by unfold Kq;simp only[Bool.or_eq_true,bU,decide_eq_true_eq];omega
def VM(s:aR):Bool:=s.data.toList.all λc=>Kq c.toNat
def me(s:aR):Bool:=decide (1<=s.size)&&decide (s.size<=32)&&VM s
def N9(N:k<s.size)(h:(s.data.toList.take k).all (λc=>Kq c.toNat)=true)(E:Kq s[k].toNat=true):(s.data.toList.take (k+1)).all (λc=>Kq c.toNat)=true:=by
 have hl:k<s.data.toList.length:=by simpa using N
 rw[br hl,List.all_append,h,Bool.true_and];simp only[List.all_cons,List.all_nil,Bool.and_true];exact E
def VN(N:k<s.size)(E:Kq s[k].toNat=false):VM s=false:=by
 have hl:k<s.data.toList.length:=by simpa using N
 refine List.all_eq_false.2 ⟨s.data.toList[k],bF hl,?_⟩;have:s.data.toList[k]=s[k]:=by rw[Array.getElem_toList];rfl
 rw[this,E];simp
def Rn(N:k<s.size)(E:Kq s[k].toNat=false):me s=false:=by unfold me;rw[VN N E,Bool.and_false]
def Na(c:UInt8):0<=(c.toNat:Int)∧(c.toNat:Int)<=255:=by have:=c.toNat_lt;omega
def Dd(w:X)(s:aR)(hs:s.size<=dG):dz W 264 #[aX s] w λe O=>e=b5 (aY (me s))∧w=O:=by
 unfold dG at hs;by_cases h0:s.size=0
 ·have he:me s=false:=by unfold me;rw[aD ap,Bool.false_and,Bool.false_and]
  rw[he];have hee:(s == (⟨#[]⟩:ByteArray))=true:=by have:s=⟨#[]⟩:=ByteArray.ext (Array.eq_empty_of_size_eq_zero h0);rw[this];rfl
  obtain rfl:s=⟨#[]⟩:=ByteArray.ext (Array.eq_empty_of_size_eq_zero h0);clear h0 hee he;go_in;go_wp2;go_ret;exact⟨rfl,rfl⟩
 ·have jT:s.toList=[]↔False:=by
   constructor
   ·intro h
    have G:s.data.toList=[]:=by rw[<-Lib.toList_data];exact h
    have:s.size=0:=by show s.data.size=0;rw[<-bZ,G];rfl
    exact h0 this
   ·exact False.elim
  have hne2:s.toList.isEmpty=false:=by
   cases h:s.toList with
   | nil=>exact (jT.1 h).elim
   | cons _ _=>rfl
  clear jT
  by_cases h32:s.size<=32
  ·have hd:decide ((32:Int)<(s.size:Int))=false:=aD ap
   go_in
   go_wp2
   go_loop [14] (λi=>∃k:Nat,k<=s.size∧i=J k∧(s.data.toList.take k).all (λc=>Kq c.toNat)=true) (λi=>s.size-(intOf i).toNat)
   case atStart=>exact⟨0,bo _,rfl,rfl⟩
   case round=>
    obtain⟨k,N,rfl,o5⟩:=hrel
    have HA:=Q o5
    clear o5
    by_cases fS:k<s.size
    ·have Y0:decide ((k:Int)<(s.size:Int))=true:=aC ap
     have hb:=Na s[k]
     have HY:Hid (Kq s[k].toNat=true->(s.data.toList.take (k+1)).all (λc=>Kq c.toNat)=true):=Q λh=>N9 fS HA.out h
     have HN:Hid (Kq s[k].toNat=false->me s=false):=Q λh=>Rn fS h
     have HI:Hid (Kq s[k].toNat=true↔_):=Q (VL s[k].toNat)
     go_wp2
     all_goals first
      | (go_ret;exact⟨kC (HN.out (by rw[Bool.eq_false_iff,ne_eq,HI.out];(try simp only[bne_iff_ne,ne_eq,bne_eq_false_iff_eq] at *);omega)).symm,rfl⟩)
      | (go_round
         case rel=>exact⟨k+1,by omega,by go_num,HY.out (HI.out.2 (by (try simp only[bne_iff_ne,ne_eq,bne_eq_false_iff_eq] at *);omega))⟩
         case measure=>simp[intOf];omega)
    ·obtain rfl:k=s.size:=by omega
     have Y0:decide ((s.size:Int)<(s.size:Int))=false:=aD ap
     have ht:me s=true:=by have:=HA.out;rw[bH (by simp)] at this;unfold me VM;rw[this,aC ap,aC ap];rfl
     have HT:=Q ht
     clear ht
     go_wp2
     go_ret
     exact⟨kC HT.out.symm,rfl⟩
  ·have hd:decide ((32:Int)<(s.size:Int))=true:=aC ap
   have he:me s=false:=by unfold me;rw[aD h32,Bool.and_false,Bool.false_and]
   rw[he]
   clear he
   go_in
   go_wp2
   go_ret
   exact⟨rfl,rfl⟩
end Go.Proofs.YtpeepcmdehhbgaaGreatDoor.abn
namespace Go.Proofs.YtpeepcmdehhbgaaGreatDoor.V
open RowKit Hop
def xj(w:X)(A:aU)(n c:Nat)(l:aT)(hb:Bytes w (w:Nat) A n l)(hn:n<=1099511627776)(s:aR)(hs:s.size<=1099511627776):dz W 240 #[Z A n c,aX s] w λe O=>∃v,e=b5 v∧Own O (New w O) 5 1 v (n+(enc s.size).length+s.size) (kz (l++enc s.size++s.data.toList))∧Grow w O:=by
 have fj:=eE (n:=s.size) ap;have HLen:=Q fj;clear fj;go_in;go_wp2_with (first
  | (go_at_call 182;refine (Bt _ A n c l hb hn s.size ap).mono ?_;rintro e w1 ⟨v1,rfl,kv,eD⟩)
  | (at_builtin;refine stay ?_))
 refine dI ?_;refine xb Kj cW _ rfl (.tmp 9) (.tmp 10) rfl v1 _ _ rfl kv s rfl (by have:=HLen.out;omega) ?_;intro v2 w2 sw k7;rw[<-iT] at sw;obtain⟨sw,fk⟩:=D4 eD sw k7;clear k7 kv;go_wp2_with (go_at_call 238;refine (D5 _ _ _ _ _ sw).mono ?_;rintro e w4 ⟨v4,rfl,rfl,hO4⟩);go_ret;exact⟨v4,rfl,hO4,fk⟩
def pA(l t:aT)(k:Nat):Prop:=(t.length<18446744073709551616∧enc t.length++t <+: l∧k=(enc t.length).length+t.length)∨((∀t':aT,t'.length<18446744073709551616->¬ (enc t'.length++t') <+: l)∧t=[]∧k=0)
def pA.none(h:∀t':aT,t'.length<18446744073709551616->¬ (enc t'.length++t') <+: l):pA l [] 0 := .inr ⟨h,rfl,rfl⟩
def G0(I:enc t.length++t <+: l)(G:enc t'.length++t' <+: l):t=t':=by have he:=k8 ((cL _ _).trans I) ((cL _ _).trans G);rw[<-he] at G;obtain⟨r,rfl⟩:=I;rw[bp] at G;have L:=(List.prefix_append_right_inj _).1 G;have h4:t <+: t++r:=cL _ _;exact List.IsPrefix.eq_of_length (List.prefix_of_prefix_length_le h4 L ap) he
def pA.one{k':Nat}(h:pA l t k)(h':pA l t' k'):t=t'∧k=k':=by
 rcases h with ⟨I,G,L⟩|⟨I,G,L⟩<;>rcases h' with ⟨g1,g2,g3⟩|⟨g1,g2,g3⟩
 ·have:=G0 G g2
  subst this;exact⟨rfl,by omega⟩
 ·exact absurd G (g1 _ I)
 ·exact absurd g2 (I _ g1)
 ·exact⟨by rw[G,g2],by omega⟩
def Nb{v:Nat}(hv:v<18446744073709551616)(hE:enc v <+: l)(N:k=(enc v).length)(hl:v<=l.length-k):pA l ((l.drop k).take v) (k+v):=by
 obtain⟨r,rfl⟩:=hE;subst N;rw[List.drop_left']
 ·rw[bd,Nat.add_sub_cancel_left] at hl
  have fj:(r.take v).length=v:=by rw[bn];omega
  refine .inl ⟨by rw[fj];exact hv,?_,by rw[fj]⟩;rw[fj];exact (List.prefix_append_right_inj _).2 (List.take_prefix _ _)
 ·rfl
end Go.Proofs.YtpeepcmdehhbgaaGreatDoor.V
namespace Go.Proofs.YtpeepcmdehhbgaaGreatDoor.Vc
open RowKit Hop V
def sJ(w:X)(B:Nat)(A:aU)(n c:Nat)(l:aT)(hb:Bytes w B A n l)(HB0:B<=(w:Nat))(iS:n<=c)(Qe:c<=dG):dz W 196 #[Z A n c] w λe O=>∃(t:aT)(k:Nat),pA l t k∧e=b5 (a_ #[aX ⟨t.toArray⟩,J k])∧Grow w O:=by
 have fj:=hb.len;unfold dG at Qe;go_in;go_wp2_with fail;go_at_call 134;refine (qG w B A n c l hb (by unfold dG;omega)).mono ?_;rintro e w1 ⟨v,k,hG,rfl,rfl⟩;obtain⟨hv,a1u,Iq⟩:=hG.lt;by_cases N:k<=0
 ·go_wp2_with fail
  go_ret2;exact⟨[],0,pA.none (λt ht hp=>by
   rcases hG with ⟨_,_,L⟩|⟨I,_,_⟩
   ·have:=nx v;omega
   ·exact I _ ht ((cL _ _).trans hp)),rfl,Grow.refl _⟩
 ·have hE:enc v <+: l∧k=(enc v).length:=by
   rcases hG with ⟨_,G,L⟩|⟨_,_,L⟩
   ·exact⟨G,L⟩
   ·omega
  obtain⟨hE,hkE⟩:=hE
  have HKE:=Q hkE
  clear hkE
  have gP:(n:Int)-(k:Int)<(v:Int)∨(v:Int)<=(n:Int)-(k:Int):=by omega
  have hwn:IntKind.u64.wrap ((n:Int)-(k:Int))=(n:Int)-(k:Int):=by rw[wrap_u64];omega
  have hw64:wrap64 ((n:Int)-(k:Int))=(n:Int)-(k:Int):=by unfold wrap64;omega
  have hkb:((k:Int) == 0)=false:=by rw[beq_eq_false_iff_ne];omega
  by_cases zf:(n:Int)-(k:Int)<(v:Int)
  ·clear gP
   go_wp2
   go_ret2
   exact⟨[],0,pA.none (λt ht hp=>by have I:=k8 hE ((cL _ _).trans hp);have G:=hp.length_le;rw[bd,<-I,<-HKE.out] at G;omega),rfl,Grow.refl _⟩
  ·clear gP
   have hvn':(v:Int)<=(n:Int)-(k:Int):=by omega
   have hwv:IntKind.i64.wrap (v:Int)=(v:Int):=by rw[IntKind.wrap_i64];omega
   have T:=(Reads.cut hb (k:=k) (cap:=c) ap iS).take (k:=v) ap
   rw[cM] at T
   have wI:Bytes w B (if c=k then A else A.map (·.add k)) v ((l.drop k).take v):=by unfold Bytes;rw[w_,pU,cM k];exact T
   have hkv:(k:Int)+(v:Int)<=(c:Int):=by omega
   have uX:=Nb hv hE HKE.out (show v<=l.length-k by omega)
   by_cases o9:c=k
   ·rw[aA o9] at wI
    obtain rfl:k=c:=o9.symm
    obtain rfl:v=0:=by omega
    have wI:Bytes w B A 0 []:=wI
    have cv:=λc'=>x9 w (c:=c') wI
    go_wp2
    go_ret2
    exact⟨_,_,uX,by push_cast;rfl,Grow.refl _⟩
   ·rw[aB o9] at wI
    have cv:=λc'=>x9 w (c:=c') wI
    go_wp2
    go_ret2
    exact⟨_,_,uX,by push_cast;rfl,Grow.refl _⟩
end Go.Proofs.YtpeepcmdehhbgaaGreatDoor.Vc
namespace Go.Proofs.YtpeepcmdehhbgaaGreatDoor.abn
open RowKit Hop
def De(h:Int)(c:UInt8):Int:=IntKind.u64.wrap (bits .xor .u64 h (c.toNat:Int)*1099511628211)
def kc(l:aT):Int:=l.foldl De 14695981039346656037
def zO(l:aT):0<=kc l∧kc l<=18446744073709551615:=by
 unfold kc;rcases List.eq_nil_or_concat l with rfl|⟨r,c,rfl⟩
 ·exact⟨by decide,by decide⟩
 ·rw[List.concat_eq_append,List.foldl_append]
  show 0<=De _ c∧De _ c<=_;unfold De;rw[wrap_u64];omega
def Df(N:k<s.size):kc (s.data.toList.take (k+1))=De (kc (s.data.toList.take k)) s[k]:=by
 have hl:k<s.data.toList.length:=by simpa using N
 unfold kc;rw[br hl,List.foldl_append];rfl
def xk(n:Int):Int:=max 1 (min n 4)
def Nc(n:Int):∃m:Int,1<=m∧m<=4∧xk n=m:=⟨xk n,by unfold xk;omega,by unfold xk;omega,rfl⟩
def lX(s:aR)(n:Int):Int:=kc s.data.toList % xk n
def Kr(w:X)(s:aR)(hs:s.size<=dG):dz W 333 #[aX s] w λe O=>e=b5 (ae ah (kc s.data.toList))∧w=O:=by
 unfold dG at hs;go_in;go_wp2;go_loop [3,7] (λh i=>∃k:Nat,k<=s.size∧i=J k∧h=ae ah (kc (s.data.toList.take k))) (λ_ i=>s.size-(intOf i).toNat);case atStart=>exact⟨0,bo _,rfl,rfl⟩
 case round=>
  obtain⟨k,N,rfl,rfl⟩:=hrel;have hp:=zO (s.data.toList.take k);by_cases fS:k<s.size
  ·have Y0:decide ((k:Int)<(s.size:Int))=true:=aC ap
   have hb:=Na s[k];have HS:=Q (Df fS);have hcw:IntKind.u64.wrap (s[k].toNat:Int)=(s[k].toNat:Int):=by rw[wrap_u64];omega
   go_wp2;go_round;case rel=>exact⟨k+1,by omega,by go_num,by rw[HS.out];rfl⟩
   case measure=>simp[intOf];omega
  ·obtain rfl:k=s.size:=by omega
   have Y0:decide ((s.size:Int)<(s.size:Int))=false:=aD ap;go_wp2;go_ret;exact⟨by rw[bH (by simp)];rfl,rfl⟩
def Ks(w:X)(s:aR)(n:Int)(hs:s.size<=dG)(hn:-9223372036854775808<=n∧n<=9223372036854775807):dz W 280 #[aX s,J n] w λe O=>e=b5 (J (lX s n))∧w=O:=by
 obtain⟨m,I,h4,hm⟩:=Nc n;have hp:=zO s.data.toList;have Qf:∀ts t w,(Builtin.min_ ts t #[J n,J 4]).run W w=.ok (J (min n 4)) w:=λts t w=>by rw[run_min_int2];congr 2;split<;>omega
 have Bb:∀ts t w,(Builtin.max_ ts t #[J 1,J (min n 4)]).run W w=.ok (J m) w:=λts t w=>by rw[run_max_int2,<-hm];congr 2;unfold xk;split<;>omega
 have hmw:IntKind.u64.wrap m=m:=by rw[wrap_u64];omega
 have su:¬ m=0:=by omega
 have HM:=Q hm;clear hm;have q0:=Int.emod_nonneg (kc s.data.toList) (b:=m) ap;have q1:=Int.emod_lt_of_pos (kc s.data.toList) (b:=m) ap;have hrem:(kc s.data.toList).tmod m=kc s.data.toList % m:=Int.tmod_eq_emod_of_nonneg hp.1;have hwi:IntKind.i64.wrap (kc s.data.toList % m)=kc s.data.toList % m:=by rw[IntKind.wrap_i64];omega
 go_in;go_wp2_with (go_at_call 333;refine (Kr _ _ hs).mono ?_;rintro e O ⟨rfl,rfl⟩);go_ret;exact⟨by unfold lX;rw[HM.out];rfl,rfl⟩
end Go.Proofs.YtpeepcmdehhbgaaGreatDoor.abn
namespace Go.Proofs.YtpeepcmdehhbgaaGreatDoor.V
open RowKit Hop
def Nf(w:X)(n:Nat)(hn:n<=140737488355328):dz W 367 #[ay,J n] w λe O=>∃v,e=b5 v∧Own O (New w O) 5 1 v 0 []∧Grow w O:=by
 rcases b_ n with h0|h0
 ·subst h0
  go_in;go_wp2;go_ret;exact⟨_,rfl,Own.nil,Grow.refl _⟩
 ·have zD:(0:Int)<(n:Int):=by omega
  have a5X:¬ (n:Int)<0:=by omega
  obtain⟨i,hi,hz,hs,hb⟩:=Kj.info;go_in;go_wp2_with (at_builtin;refine Lib.wpList_append_run _ rfl _ _ _ _ rfl _ _ rfl rfl _ _ (Lib.run_append_nil_zeros _ 23 3 _ 5 i (.int .u8 0) .i64 .i64 d9 dp hi hz n h0 ap ap (by rw[hb];omega)) ?_);have QG:=grownCap_ge w n 0 5;have mn:grownCap w n 0 5<=dG:=grownCap_le_maxLen w n 0 5 (by unfold dG;omega);generalize grownCap w n 0 5=cap at QG mn;have jQ:(bM #[Value.int .u8 0] n++bM #[Value.int .u8 0] (cap-n)).size=cap:=by rw[Array.size_append,size_zeroCells,size_zeroCells,show (#[Value.int .u8 0]:Array K).size=1 from rfl];omega
  generalize bM #[Value.int .u8 0] n++bM #[Value.int .u8 0] (cap-n)=cur at jQ;go_wp2;go_ret;refine⟨_,rfl,⟨rfl,.inr ⟨(w:Nat),cap,cur,rfl,⟨bh _,by simp⟩,?_,bo _,mn,by omega,by simp⟩⟩,Grow.drew ((Below.refl _ _).alloc (bh _) _)⟩;exact heap_alloc_new w _
structure Bx where
 A:Option dA
 m:Nat
 c:Nat
 bs:List UInt8
def Bx.cells(b:Bx):List K:=[Z b.A b.m b.c]
def ui(b:Bx):b.cells.length=1:=rfl
def VO(b:Bx):∀u∈b.cells,u.oneCell'=true:=by intro u hu;simp only[Bx.cells,cI,cF,or_false] at hu;rw[hu];rfl
def zP{α β:Type}(f:α->List β)(q:List α)(N:k<q.length):(q.take (k+1)).flatMap f=(q.take k).flatMap f++f q[k]:=by rw[br N,bL,bJ,cE,bm]
def IQ{α β:Type}(f:α->List β)(q:List α)(k:Nat):((q.take k).flatMap f).length<=(q.flatMap f).length:=by
 conv=>rhs;rw[<-dt k q]
 rw[bL,bd];omega
def oV(q:List Bx):Nat:=(q.flatMap Bx.bs).length
def G1(w:X)(A:aU)(n c:Nat)(q:List Bx)(T:Reads w (w:Nat) 1 A n (q.flatMap Bx.cells))(hb:∀b∈q,Bytes w (w:Nat) b.A b.m b.bs)(hT:oV q<=1099511627776)(hn:n<=1099511627776):dz W 331 #[Z A n c] w λe O=>∃v,e=b5 v∧Own O (New w O) 5 1 v (oV q) (kz (q.flatMap Bx.bs))∧Grow w O:=by
 have hI:In w (λ_=>True) 1 A n (q.flatMap Bx.cells):=Reads.jL T (bh _) λ_ _=>trivial;have ig:q.length=n:=by have:=T.1;rw[ix Bx.cells 1 ui] at this;omega
 go_in;go_wp2_with fail;go_loopw [3,11] (λs i wr=>∃k:Nat,k<=n∧i=J k∧s=J (oV (q.take k):Int)∧w=wr) (λ_ i _=>n-(intOf i).toNat);case atStart=>exact⟨0,by omega,rfl,rfl,rfl⟩
 case round=>
  obtain⟨k,oL,rfl,rfl,rfl⟩:=hrel;by_cases N:k<n
  ·obtain⟨ad,hq,rfl,_,_,e0,_⟩:=hI.mr ap ui N
   have e0:=e0 _ rfl;rw[cM] at e0;have Fa:=hb _ (bF hq);have hL:oV (q.take (k+1))=oV (q.take k)+q[k].m:=by unfold oV;rw[zP Bx.bs q hq,bd,Bytes.len Fa]
   have mn:oV (q.take (k+1))<=oV q:=IQ Bx.bs q (k+1);have HL:=Q hL;have Um:=Q (show oV (q.take k)+q[k].m<=1099511627776 by omega);clear hL mn Fa;generalize q[k]=b at e0 HL Um;obtain⟨Ab,mb,cb,bs⟩:=b;dsimp only at e0 HL Um;generalize oV (q.take k)=s at HL Um;have wv:IntKind.i64.wrap ((s:Int)+(mb:Int))=(s:Int)+(mb:Int):=by have:=Um.out;rw[IntKind.wrap_i64];omega
   have hs0:¬ (s:Int)+(mb:Int)<0:=by omega
   go_wp2_with fail;go_roundw;case rel=>exact⟨k+1,by omega,by go_num,by rw[HL.out];push_cast;rfl,by trivial⟩
   case measure=>simp[intOf];omega
  ·obtain rfl:k=n:=by omega
   have Zr:q.take k=q:=bH ap;rw[Zr];go_wp2_with fail;go_at_call 367;refine (Nf w _ ap).mono ?_;rintro e w1 ⟨v,rfl,kv,eD⟩;go_wp2_with fail;go_loopw [6,27] (λv i wr=>∃j:Nat,j<=k∧i=J j∧Own wr (New w wr) 5 1 v (oV (q.take j)) (kz ((q.take j).flatMap Bx.bs))∧Grow w wr) (λ_ i _=>k-(intOf i).toNat);case atStart=>exact⟨0,by omega,rfl,kv,eD⟩
   case round=>
    obtain⟨j,Vb,rfl,hO,H⟩:=hrel;by_cases hj:j<k
    ·obtain⟨ad,hq,rfl,_,_,e0,_⟩:=(hI.grow H).mr ap ui hj
     have e0:=e0 _ rfl;rw[cM] at e0;have Fa:=(hb _ (bF hq)).below H;have hF:=zP Bx.bs q hq;have hL:oV (q.take (j+1))=oV (q.take j)+q[j].m:=by unfold oV;rw[hF,bd,Bytes.len Fa]
     have mn:oV (q.take (j+1))<=oV q:=IQ Bx.bs q (j+1);have HF:=Q hF;have Um:=Q (show oV (q.take j)+q[j].m<=1099511627776 by omega);have HL:=Q hL;clear hF mn hL;generalize q[j]=b at e0 HF Um Fa HL;obtain⟨Ab,mb,cb,bs⟩:=b;dsimp only at e0 HF Um Fa HL;go_wp2_with (at_builtin;refine stay ?_);refine dI ?_;refine fO (V:=New w wr) Kj _ rfl (.tmp 31) (.tmp 32) rfl _ _ _ rfl hO (w:Nat) Ab mb cb (kz bs) rfl Fa lx (by have:=Um.out;omega) ?_;intro v2 w2 sw k7;rw[<-iT,<-HF.out,<-HL.out] at sw;obtain⟨sw,fk⟩:=D4 H sw k7;clear k7 hO Fa;go_wp2_with fail;go_roundw;case rel=>exact⟨j+1,by omega,by go_num,sw,fk⟩
     case measure=>simp[intOf];omega
    ·obtain rfl:j=k:=by omega
     rw[Zr] at hO;go_wp2;go_ret;exact⟨_,rfl,hO,H⟩
def BF(c:BitVec 32)(i:Nat):((tb c i).toNat:Int)=(c.toNat:Int) / ((2 ^ (8*i):Nat):Int) % 256:=by rw[wV];simp
def uj(w:X)(A:aU)(n c:Nat)(l:aT)(hb:Bytes w (w:Nat) A n l)(hn:n<=65536):dz W 276 #[Z A n c] w λe O=>∃v,e=b5 (a_ #[v,()])∧Own O (New w O) 5 1 v (frame l).length (kz (frame l))∧Grow w O:=by
 have fj:=hb.len;have YT:=Bt w none 0 0 [] Reads.nil ap n ap;have hen:=eE (n:=n) ap;rw[ch,cJ] at YT;have hwn:IntKind.u64.wrap (n:Int)=(n:Int):=by rw[IntKind.wrap_u64];omega
 go_in;go_wp2_with fail;go_at_call 182;refine YT.mono ?_;rintro e w1 ⟨v1,rfl,kv,eD⟩;clear YT;have tY:=FG A n c l w1 (w:Nat) (hb.below eD) (by unfold dG;omega);go_wp2_with fail;go_at_call 136;refine tY.mono ?_;rintro e w1' ⟨rfl,rfl⟩;clear tY;go_wp2_with fail;go_loopw [4,16] (λv i wr=>∃k:Nat,k<=4∧i=J k∧Own wr (New w wr) 5 1 v ((enc n).length+k) (kz (enc n++(oO (crc l)).take k))∧Grow w wr) (λ_ i _=>4-(intOf i).toNat);case atStart=>exact⟨0,by omega,rfl,by rw[List.take_zero,bm];exact kv,eD⟩
 case round=>
  obtain⟨k,j5,rfl,hO,H⟩:=hrel;by_cases N:k<4
  ·rcases (show k=0∨k=1∨k=2∨k=3 by omega) with rfl|rfl|rfl|rfl
   ·have hX:((crc l).toNat:Int) % 256=((tb (crc l) 0).toNat:Int):=by rw[BF];simp
    have HX:=Q hX;clear hX;go_wp2_with (at_builtin;refine stay ?_);refine dI ?_;refine fO (V:=New w wr) Kj _ rfl (.tmp 19) (.tmp 25) rfl _ _ _ rfl (mD hO _) ((wr:Nat)+1) (some ⟨(wr:Nat),0,none⟩) 1 1 (kz [tb (crc l) 0]) rfl (Reads.oe (fF wr #[.int .u8 (((crc l).toNat:Int) % 256)] 5 (0,0) rfl _ rfl) (by rw[HX.out];rfl)) lx (by have:=hen;omega) ?_;intro v3 w3 nt mz;rw[<-iT,bp,show (oO (crc l)).take 0++[tb (crc l) 0]=(oO (crc l)).take 1 from rfl] at nt;obtain⟨nt,ib⟩:=mC H nt mz;clear mz hO;go_wp2_with fail;go_roundw;case rel=>exact⟨1,by omega,by go_num,nt,ib⟩
    case measure=>simp[intOf]
   ·have hX:((crc l).toNat:Int) / 256 % 256=((tb (crc l) 1).toNat:Int):=by rw[BF];simp
    have HX:=Q hX;clear hX;go_wp2_with (at_builtin;refine stay ?_);refine dI ?_;refine fO (V:=New w wr) Kj _ rfl (.tmp 19) (.tmp 25) rfl _ _ _ rfl (mD hO _) ((wr:Nat)+1) (some ⟨(wr:Nat),0,none⟩) 1 1 (kz [tb (crc l) 1]) rfl (Reads.oe (fF wr #[.int .u8 (((crc l).toNat:Int) / 256 % 256)] 5 (0,0) rfl _ rfl) (by rw[HX.out];rfl)) lx (by have:=hen;omega) ?_;intro v3 w3 nt mz;rw[<-iT,bp,show (oO (crc l)).take 1++[tb (crc l) 1]=(oO (crc l)).take 2 from rfl] at nt;obtain⟨nt,ib⟩:=mC H nt mz;clear mz hO;go_wp2_with fail;go_roundw;case rel=>exact⟨2,by omega,by go_num,nt,ib⟩
    case measure=>simp[intOf]
   ·have hX:((crc l).toNat:Int) / 65536 % 256=((tb (crc l) 2).toNat:Int):=by rw[BF];simp
    have HX:=Q hX;clear hX;go_wp2_with (at_builtin;refine stay ?_);refine dI ?_;refine fO (V:=New w wr) Kj _ rfl (.tmp 19) (.tmp 25) rfl _ _ _ rfl (mD hO _) ((wr:Nat)+1) (some ⟨(wr:Nat),0,none⟩) 1 1 (kz [tb (crc l) 2]) rfl (Reads.oe (fF wr #[.int .u8 (((crc l).toNat:Int) / 65536 % 256)] 5 (0,0) rfl _ rfl) (by rw[HX.out];rfl)) lx (by have:=hen;omega) ?_;intro v3 w3 nt mz;rw[<-iT,bp,show (oO (crc l)).take 2++[tb (crc l) 2]=(oO (crc l)).take 3 from rfl] at nt;obtain⟨nt,ib⟩:=mC H nt mz;clear mz hO;go_wp2_with fail;go_roundw;case rel=>exact⟨3,by omega,by go_num,nt,ib⟩
    case measure=>simp[intOf]
   ·have hX:((crc l).toNat:Int) / 16777216=((tb (crc l) 3).toNat:Int):=by rw[BF];have:=(crc l).isLt;simp;omega
    have HX:=Q hX;clear hX;go_wp2_with (at_builtin;refine stay ?_);refine dI ?_;refine fO (V:=New w wr) Kj _ rfl (.tmp 19) (.tmp 25) rfl _ _ _ rfl (mD hO _) ((wr:Nat)+1) (some ⟨(wr:Nat),0,none⟩) 1 1 (kz [tb (crc l) 3]) rfl (Reads.oe (fF wr #[.int .u8 (((crc l).toNat:Int) / 16777216)] 5 (0,0) rfl _ rfl) (by rw[HX.out];rfl)) lx (by have:=hen;omega) ?_;intro v3 w3 nt mz;rw[<-iT,bp,show (oO (crc l)).take 3++[tb (crc l) 3]=(oO (crc l)).take 4 from rfl] at nt;obtain⟨nt,ib⟩:=mC H nt mz;clear mz hO;go_wp2_with fail;go_roundw;case rel=>exact⟨4,by omega,by go_num,nt,ib⟩
    case measure=>simp[intOf]
  ·obtain rfl:k=4:=by omega
   rw[show (oO (crc l)).take 4=oO (crc l) from rfl] at hO;obtain⟨A4,c4,rfl,om,hn4,VP⟩:=hO.reads;have fu:=(Below.refl (wr:Nat) wr).alloc (bh _) (.cells #[Z A4 ((enc n).length+4) c4,Z A n c] 23);have jU:=eQ H fu H.size;have qX:[(⟨A4,(enc n).length+4,c4,enc n++oO (crc l)⟩:Bx),⟨A,n,c,l⟩].flatMap Bx.bs=frame l:=by unfold frame;rw[fj];simp[bp]
   have YU:=G1 (wr.alloc (.cells #[Z A4 ((enc n).length+4) c4,Z A n c] 23)) (some ⟨(wr:Nat),0,none⟩) 2 2 [⟨A4,(enc n).length+4,c4,enc n++oO (crc l)⟩,⟨A,n,c,l⟩] (Reads.more (fF wr _ 23 _ rfl _ rfl) (by simp)) (λb vn=>by
    simp only[cI,cF,or_false] at vn;rcases vn with rfl|rfl
    ·exact Reads.more (Reads.below om fu) fu.size
    ·exact Reads.more (Reads.below hb jU) jU.size) (by unfold oV;rw[qX,jB,fj];omega) ap
   unfold oV at YU;rw[qX] at YU;go_wp2_with fail;refine YU.mono ?_;rintro e w5 ⟨v5,rfl,Ro,ng⟩;clear YU hO om;go_wp2;go_ret2;exact⟨v5,rfl,Ro.mono λb hb=>⟨by have:=hb.1;have:=jU.size;omega,hb.2⟩,eQ jU ng jU.size⟩
def xl(w:X)(A:aU)(n c:Nat)(hn:65536<n):dz W 276 #[Z A n c] w λe O=>e=b5 (a_ #[ay,J 3])∧w=O:=by go_in;go_wp2;go_ret2;exact⟨rfl,rfl⟩
def BG(a:dA)(i:Nat)(h:i≠0):a.add i=⟨a.block,a.off+i,none⟩:=by unfold Addr.add;rw[aB h]
def a3N(a b:Nat)(ha:a<4294967296)(hb:b<4294967296):bits .or .u32 (a:Int) (b:Int)=((a ||| b:Nat):Int):=by
 have YV:a ||| b<2 ^ 32:=Nat.or_lt_two_pow ha hb
 show IntKind.u32.wrap ((BitVec.ofInt 32 (a:Int) ||| BitVec.ofInt 32 (b:Int)).toNat:Int)=_;rw[BitVec.ofInt_natCast,BitVec.ofInt_natCast,BitVec.toNat_or,BitVec.toNat_ofNat,BitVec.toNat_ofNat,Nat.mod_eq_of_lt ha,Nat.mod_eq_of_lt hb,IntKind.wrap_u32'];omega
def le_step(pre:aT)(b:UInt8)(j:Nat)(hj:pre.length=j)(mz:j<=3):bits .or .u32 (Bq pre:Int) ((b.toNat:Int) % 4294967296*((256 ^ j:Nat):Int) % 4294967296)=(Bq (pre++[b]):Int):=by
 have I:=ML pre;have hb:=b.toNat_lt;rw[hj] at I;have G:256 ^ j<=256 ^ 3:=Nat.pow_le_pow_right am mz;have L:b.toNat*256 ^ j<=255*256 ^ 3:=Nat.mul_le_mul ap G;have e:(b.toNat:Int) % 4294967296*((256 ^ j:Nat):Int) % 4294967296=((b.toNat*256 ^ j:Nat):Int):=by rw[Int.emod_eq_of_lt (a:=(b.toNat:Int)) ap ap,<-Int.natCast_mul];exact Int.emod_eq_of_lt ap ap
 rw[e,a3N _ _ ap ap,CY,hj];congr 1;have e8:256 ^ j=2 ^ (8*j):=by rw[Nat.pow_mul]
 rw[e8] at I ⊢;rw[Nat.or_comm,Nat.mul_comm b.toNat,<-Nat.two_pow_add_eq_or_of_lt I];omega
def xm(w:X)(A:aU)(n c:Nat)(l:aT)(hb:Bytes w (w:Nat) A n l)(iS:n<=c)(iO:c<=dG):dz W 76 #[Z A n c] w λe O=>∃(x:aT)(k:Nat)(ok:Bool)(v:K),l5 l x k ok∧e=b5 (a_ #[v,J k,aY ok])∧Own O (New w O) 5 1 v x.length (kz x)∧Grow w O:=by
 have fj:=hb.len;go_in;go_wp2_with fail;go_at_call 134;refine (qG w _ A n c l hb (bB iS iO)).mono ?_;rintro e O ⟨m,k,hG,rfl,rfl⟩;unfold dG at iO;rcases hG with ⟨hm,hE,N⟩|⟨kh,rfl,rfl⟩
 ·have a1u:=eE hm
  have iP:=nx m;have Iq:=hE.length_le;have HK:=Q N;have ja:((k:Int) == 0)=false:=beq_eq_false_iff_ne.2 ap;have qY:1<=k∧k<=10∧k<=n:=by omega
  clear N;by_cases hm6:65536<m
  ·have a3O:decide ((65536:Int)<(m:Int))=true:=aC ap
   go_wp2;refine bodyPost_ret (v := a_ #[ay,(),aY false]) (by simp[results,Tryz.results76,go_sem]) rfl ⟨[],0,false,_,l5.none (FI hE hm6),rfl,Own.nil,Grow.refl _⟩
  ·have a3O:decide ((65536:Int)<(m:Int))=false:=aD ap
   have hwm:IntKind.i64.wrap (m:Int)=(m:Int):=by rw[IntKind.wrap_i64];omega
   by_cases YW:n<k+4+m
   ·have a5Y:decide ((n:Int)<(k:Int)+4+(m:Int))=true:=aC ap
    go_wp2;refine bodyPost_ret (v := a_ #[ay,(),aY false]) (by simp[results,Tryz.results76,go_sem]) rfl ⟨[],0,false,_,l5.none (FJ hE (by rw[fj,<-HK.out];exact YW)),rfl,Own.nil,Grow.refl _⟩
   ·have a5Y:decide ((n:Int)<(k:Int)+4+(m:Int))=false:=aD ap
    go_wp2_with fail;go_loopw [7,32] (λs i wr=>∃j:Nat,j<=4∧i=J j∧s=.int .u32 (Bq (((l.drop k).take 4).take j):Int)∧w=wr) (λ_ i _=>4-(intOf i).toNat);case atStart=>exact⟨0,by omega,rfl,rfl,rfl⟩
    case round=>
     obtain⟨j,CG,rfl,rfl,rfl⟩:=hrel;by_cases hj:j<4
     ·obtain⟨ad,hl,rfl,E⟩:=hb.at_ (k:=k+j) ap
      have hwj:IntKind.i64.wrap ((k:Int)+(j:Int))=(k:Int)+(j:Int):=by rw[IntKind.wrap_i64];omega
      have HT:=Q (show ((l.drop k).take 4).take (j+1)=((l.drop k).take 4).take j++[l[k+j]] by
       have I:j<((l.drop k).take 4).length:=by rw[bn,bO];omega
       rw[br I,List.getElem_take,List.getElem_drop])
      have TT:(((l.drop k).take 4).take j).length=j:=by rw[bn,bn,bO];omega
      have HS:=Q (le_step (((l.drop k).take 4).take j) l[k+j] j TT ap);generalize l[k+j]=bl at E HT HS;clear TT;rcases (show j=0∨j=1∨j=2∨j=3 by omega) with rfl|rfl|rfl|rfl
      ·have eA:w.cell? (ad.add k)=some (.int .u8 bl.toNat):=E
       go_wp2_with fail;go_roundw;case rel=>exact⟨1,by omega,by go_num,by have h:=HS.out;rw[<-HT.out] at h;rw[<-h];rw[show ((256 ^ 0:Nat):Int)=1 from rfl,Int.mul_one,Int.emod_emod];rfl,by trivial⟩
       case measure=>simp[intOf]
      ·have eA:w.cell? ⟨ad.block,ad.off+(k+1),none⟩=some (.int .u8 bl.toNat):=by rw[<-BG ad (k+1) ap];exact E
       go_wp2_with fail;go_roundw;case rel=>exact⟨2,by omega,by go_num,by have h:=HS.out;rw[<-HT.out] at h;rw[<-h];rfl,by trivial⟩
       case measure=>simp[intOf]
      ·have eA:w.cell? ⟨ad.block,ad.off+(k+2),none⟩=some (.int .u8 bl.toNat):=by rw[<-BG ad (k+2) ap];exact E
       go_wp2_with fail;go_roundw;case rel=>exact⟨3,by omega,by go_num,by have h:=HS.out;rw[<-HT.out] at h;rw[<-h];rfl,by trivial⟩
       case measure=>simp[intOf]
      ·have eA:w.cell? ⟨ad.block,ad.off+(k+3),none⟩=some (.int .u8 bl.toNat):=by rw[<-BG ad (k+3) ap];exact E
       go_wp2_with fail;go_roundw;case rel=>exact⟨4,by omega,by go_num,by have h:=HS.out;rw[<-HT.out] at h;rw[<-h];rfl,by trivial⟩
       case measure=>simp[intOf]
     ·obtain rfl:j=4:=by omega
      rw[show ((l.drop k).take 4).take 4=(l.drop k).take 4 by rw[List.take_take];rfl];have TV:((l.drop k).take 4).length=4:=by rw[bn,bO];omega
      have QF:((l.drop (k+4)).take m).length=m:=by rw[bn,bO];omega
      have T:=(Reads.cut hb (k:=k+4) (cap:=c) ap iS).take (k:=m) ap;rw[cM] at T;have hX':Bytes w (w:Nat) (if c=k+4 then A else A.map (·.add (k+4))) m ((l.drop (k+4)).take m):=by unfold Bytes;rw[w_,pU,cM (k+4)];exact T
      by_cases o9:c=k+4
      ·rw[aA o9] at hX'
       have hX:=hX';go_wp2_with fail;refine (jD w A m _ ((l.drop (k+4)).take m) hX ap).mono ?_;rintro e w1 ⟨v1,rfl,kv,eD⟩;obtain⟨A1,c1,rfl,lT,oK,ry⟩:=kv.reads;have tY:=FG A1 m c1 ((l.drop (k+4)).take m) w1 (w1:Nat) lT (by unfold dG;omega);by_cases hs:Bq ((l.drop k).take 4)=(crc ((l.drop (k+4)).take m)).toNat
       ·have hsI:((((crc ((l.drop (k+4)).take m)).toNat:Int) == (Bq ((l.drop k).take 4):Int)))=true:=beq_iff_eq.2 ap
        have hy:=CX hE HK.out ap ap ((vT _ _ TV).1 hs);go_wp2_with fail;refine tY.mono ?_;rintro e w1' ⟨rfl,rfl⟩;clear tY;go_wp2;refine bodyPost_ret (v := a_ #[Z A1 m c1,J ((k:Int)+4+(m:Int)),aY true]) (by simp[results,Tryz.results76,go_sem]) rfl ⟨_,k+4+m,true,_,hy,by push_cast;rfl,by rw[QF];exact kv,eD⟩
       ·have hsI:((((crc ((l.drop (k+4)).take m)).toNat:Int) == (Bq ((l.drop k).take 4):Int)))=false:=beq_eq_false_iff_ne.2 ap
        have kh:=IC hE HK.out ap (λh=>hs ((vT _ _ TV).2 h));go_wp2_with fail;refine tY.mono ?_;rintro e w1' ⟨rfl,rfl⟩;clear tY;go_wp2;refine bodyPost_ret (v := a_ #[ay,(),aY false]) (by simp[results,Tryz.results76,go_sem]) rfl ⟨[],0,false,_,l5.none kh,rfl,Own.nil,eD⟩
      ·rw[aB o9] at hX'
       have hX:Bytes w (w:Nat) (A.map λx=>⟨x.block,x.off+(k+3+1),none⟩) m ((l.drop (k+4)).take m):=by rwa [show (λa:dA=>a.add (k+4))=λx=>(⟨x.block,x.off+(k+3+1),none⟩:dA) from funext λx=>BG x (k+4) ap] at hX'
       go_wp2_with fail;refine (jD w _ m _ ((l.drop (k+4)).take m) hX ap).mono ?_;rintro e w1 ⟨v1,rfl,kv,eD⟩;obtain⟨A1,c1,rfl,lT,oK,ry⟩:=kv.reads;have tY:=FG A1 m c1 ((l.drop (k+4)).take m) w1 (w1:Nat) lT (by unfold dG;omega);by_cases hs:Bq ((l.drop k).take 4)=(crc ((l.drop (k+4)).take m)).toNat
       ·have hsI:((((crc ((l.drop (k+4)).take m)).toNat:Int) == (Bq ((l.drop k).take 4):Int)))=true:=beq_iff_eq.2 ap
        have hy:=CX hE HK.out ap ap ((vT _ _ TV).1 hs);go_wp2_with fail;refine tY.mono ?_;rintro e w1' ⟨rfl,rfl⟩;clear tY;go_wp2;refine bodyPost_ret (v := a_ #[Z A1 m c1,J ((k:Int)+4+(m:Int)),aY true]) (by simp[results,Tryz.results76,go_sem]) rfl ⟨_,k+4+m,true,_,hy,by push_cast;rfl,by rw[QF];exact kv,eD⟩
       ·have hsI:((((crc ((l.drop (k+4)).take m)).toNat:Int) == (Bq ((l.drop k).take 4):Int)))=false:=beq_eq_false_iff_ne.2 ap
        have kh:=IC hE HK.out ap (λh=>hs ((vT _ _ TV).2 h));go_wp2_with fail;refine tY.mono ?_;rintro e w1' ⟨rfl,rfl⟩;clear tY;go_wp2;refine bodyPost_ret (v := a_ #[ay,(),aY false]) (by simp[results,Tryz.results76,go_sem]) rfl ⟨[],0,false,_,l5.none kh,rfl,Own.nil,eD⟩
 ·go_wp2_with fail
  refine bodyPost_ret (v := a_ #[ay,(),aY false]) (by simp[results,Tryz.results76,go_sem]) rfl ⟨[],0,false,_,l5.none (MK kh),rfl,Own.nil,Grow.refl _⟩
def Ng{f:aT}(h:f <+: l.drop k):l.take (k+f.length)=l.take k++f:=by obtain⟨t,ht⟩:=h;rw[List.take_add,<-ht,List.take_left' rfl]
def oW(x:aT):5<=(frame x).length:=by have:=nx x.length;rw[jB];omega
def sO(l:aT):Prop:=∀y:aT,y.length<=65536->¬ frame y <+: l
def l8(l:aT)(xs:List (List UInt8))(k:Nat):Prop:=xs.flatMap frame++l.drop k=l∧k=(xs.flatMap frame).length∧(∀x∈xs,x.length<=65536)∧sO (l.drop k)
theorem Dg:∀(xs ys:List (List UInt8))(r s:aT),xs.flatMap frame++r=ys.flatMap frame++s->(∀x∈xs,x.length<=65536)->(∀x∈ys,x.length<=65536)->sO r->sO s->xs=ys
 | [],[],_,_,_,_,_,_,_=>rfl
 | [],y::ys,r,s,h,_,hy,hr,_=>absurd (show frame y <+: r by
  rw[cE,ch,bJ,bp] at h;rw[h];exact cL _ _) (hr y (hy y cj))
 | x::xs,[],r,s,h,Y,_,_,hs=>absurd (show frame x <+: s by
     rw[cE,ch,bJ,bp] at h;rw[<-h];exact cL _ _) (hs x (Y x cj))
 | x::xs,y::ys,r,s,h,Y,hy,hr,hs=>by
   rw[bJ,bJ,bp,bp] at h;have e:x=y:=uf (r:=frame x++(xs.flatMap frame++r)) (cL _ _) (by rw[h];exact cL _ _);subst e;rw[Dg xs ys r s (List.append_cancel_left h) (λz hz=>Y z (bR _ hz)) (λz hz=>hy z (bR _ hz)) hr hs]
def l8.one{ys:List (List UInt8)}{j:Nat}(h:l8 l xs k)(h':l8 l ys j):xs=ys∧k=j:=by have e:=Dg xs ys _ _ (h.1.trans h'.1.symm) h.2.2.1 h'.2.2.1 h.2.2.2 h'.2.2.2;subst e;exact⟨rfl,by rw[h.2.1,h'.2.1]⟩
theorem G2(xs:List (List UInt8)):5*xs.length<=(xs.flatMap frame).length:=by
 induction xs with
 | nil=>simp
 | cons x xs ih=>
   have:=oW x;rw[bJ,bd,bD];omega
def Dh{x:aT}(h:l.take k=xs.flatMap frame)(Y:frame x <+: l.drop k):l.take (k+(frame x).length)=(xs++[x]).flatMap frame:=by rw[Ng Y,h,bL,bJ,cE,bm]
def Di(h:l.take k=xs.flatMap frame)(N:k<=l.length)(Y:∀x∈xs,x.length<=65536)(hn:sO (l.drop k)):l8 l xs k:=⟨by rw[<-h,dt],by rw[<-h,bn];omega,Y,hn⟩
structure oX(w:X)(V:Nat->Prop)(b:Bx):Prop where
 bs:In w V 1 b.A b.m (kz b.bs)
 le:b.m<=b.c
 max:b.c<=dG
theorem oX.mono{w:X}{V V':aV}{b:Bx}(h:oX w V b)(hV:∀b,V b->V' b):oX w V' b:=⟨In.mono h.bs hV,h.le,h.max⟩
theorem oX.grow{w O:X}{V:aV}{b:Bx}(h:oX w V b)(H:Grow w O):oX O V b:=⟨In.grow h.bs H,h.le,h.max⟩
theorem oX.just{w O:X}{V U:aV}{b:Bx}(h:oX w V b)(hj:dM U w O)(hd:∀b,V b->¬ U b):oX O V b:=⟨In.just h.bs hj hd,h.le,h.max⟩
def oX.len{b:Bx}(h:oX w V b):b.bs.length=b.m:=by have:=h.bs.1;simpa using this
def oX.bytes{b:Bx}(h:oX w V b):Bytes w (w:Nat) b.A b.m b.bs:=In.reads h.bs
structure IR(w:X)(V D:Nat->Prop)(A:Option dA)(n:Nat)(q:List Bx):Prop where
 row:In w V 1 A n (q.flatMap Bx.cells)
 all:∀b∈q,oX w D b
def IR.len{D:aV}{A:aU}{n:Nat}{q:List Bx}(h:IR w V D A n q):q.length=n:=by have:=h.row.1;rw[ix Bx.cells 1 ui] at this;omega
theorem IR.grow{w O:X}{V D:aV}{A:aU}{n:Nat}{q:List Bx}(h:IR w V D A n q)(H:Grow w O):IR O V D A n q:=⟨h.row.grow H,λb hb=>(h.all b hb).grow H⟩
theorem IR.mono{w:X}{V D V' D':aV}{A:aU}{n:Nat}{q:List Bx}(h:IR w V D A n q)(hV:∀b,V b->V' b)(hD:∀b,D b->D' b):IR w V' D' A n q:=⟨h.row.mono hV,λb hb=>(h.all b hb).mono hD⟩
def Zs(xs:List (List UInt8))(w0:X)(u:K)(w:X):Prop:=∃(A:aU)(c:Nat)(q:List Bx),u=Z A q.length c∧IR w (New w0 w) (New w0 w) A q.length q∧q.map Bx.bs=xs∧q.length<=c∧c<=dG
def Nh:(Tryz.prog.info? 23).map (λi=>(i.zero,i.size,i.bytes))=some (some (Z none 0 0),1,24):=by kernel_rfl
def bxE:Elem W 200 23 1 24 (Z none 0 0):=⟨Tryz.underlying200,info_parts Nh,rfl,by decide,by decide⟩
def Ni(w:X)(A:aU)(n c:Nat)(l:aT)(hb:Bytes w (w:Nat) A n l)(iS:n<=c)(iO:c<=dG)(hn:n<=1099511627776):dz W 179 #[Z A n c] w λe O=>∃(xs:List (List UInt8))(k:Nat)(u:K),l8 l xs k∧e=b5 (a_ #[u,J k])∧Zs xs w u O∧Grow w O:=by
 have fj:=hb.len;go_in;go_wp2_with fail;go_loopw [4,5] (λs i wr=>∃(k:Nat)(q:List Bx)(R D:aV),k<=n∧i=J k∧Own wr R 23 1 s q.length (q.flatMap Bx.cells)∧(∀b∈q,oX wr D b)∧(∀x∈q.map Bx.bs,x.length<=65536)∧l.take k=(q.map Bx.bs).flatMap frame∧(∀b,R b->New w wr b∧¬ D b)∧(∀b,D b->New w wr b)∧Grow w wr) (λ_ i _=>n-(intOf i).toNat);case atStart=>exact⟨0,[],λ_=>False,λ_=>False,by omega,rfl,Own.nil,by simp,by simp,by simp,λ_ h=>h.elim,λ_ h=>h.elim,Grow.refl _⟩
 case round=>
  obtain⟨k,q,R,D,oL,rfl,hO,kT,h6,qX,T,hD,H⟩:=hrel;obtain⟨A1,c1,rfl,Ma,MZ,ry⟩:=hO.jL;have Yu:5*q.length<=k:=by have I:=G2 (q.map Bx.bs);rw[<-qX,bn,bj] at I;omega
  have Fw:=H.size;have hbr:Bytes wr (wr:Nat) A n l:=Reads.more (Reads.below hb H) H.size;have wI:=Reads.cut hbr (k:=k) (cap:=c) oL iS;have vn:Bytes wr (wr:Nat) (if c=k then A else A.map (·.add k)) (n-k) (l.drop k):=by simp only[cM] at wI;unfold Bytes;rw[pU,cM];exact wI
  have J_:∀(w1:X),Grow wr w1->sO (l.drop k)->∃(xs:List (List UInt8))(k':Nat)(u:K),l8 l xs k'∧Ending.returned (a_ #[Z A1 q.length c1,J k])=b5 (a_ #[u,J k'])∧Zs xs w u w1∧Grow w w1:=λw1 eD kh=>
   ⟨q.map Bx.bs,k,_,Di qX ap h6 kh,rfl,⟨A1,c1,q,rfl,⟨(Ma.mono λb hb=>(⟨(T b hb).1.1,by have:=(T b hb).1.2;have:=eD.size;omega⟩:New w w1 b)).grow eD,λb hb=>((kT b hb).mono λx Y=>(⟨(hD x Y).1,by have:=(hD x Y).2;have:=eD.size;omega⟩:New w w1 x)).grow eD⟩,rfl,MZ,ry⟩,H.trans eD⟩
  by_cases o9:c=k
  ·rw[aA o9] at vn
   have hnk:n=k:=by omega
   go_wp2_with fail;go_at_call 76;rw[show n-k=0 by omega] at vn;refine (xm _ _ 0 0 (l.drop k) vn ap ap).mono ?_;rintro e w1 ⟨x,k',ok,v,Nj,rfl,kv,eD⟩;rcases Nj with ⟨_,hx6,F4,qY⟩|⟨rfl,kh,rfl,rfl⟩
   ·exfalso
    have I:=F4.length_le;have G:=oW x;rw[bO] at I;omega
   ·go_wp2_with fail
    go_ret2;exact J_ w1 eD kh
  ·rw[aB o9] at vn
   go_wp2_with fail;go_at_call 76;refine (xm _ _ (n-k) (c-k) (l.drop k) vn ap ap).mono ?_;rintro e w1 ⟨x,k',ok,v,Nj,rfl,kv,eD⟩;rcases Nj with ⟨rfl,hx6,F4,qY⟩|⟨rfl,kh,rfl,rfl⟩
   ·have TT:=F4.length_le
    rw[bO] at TT;have h5:=oW x;have HF:=Q (Dh qX F4);obtain⟨A2,c2,rfl,It,a3P,zE⟩:=kv.jL;have hwk:IntKind.i64.wrap ((k:Int)+(k':Int))=(k:Int)+(k':Int):=by rw[IntKind.wrap_i64];omega
    have QI:=eD.size;have pG:=(Below.refl (w1:Nat) w1).alloc (bh _) (.cells #[Z A2 x.length c2] 23);have l6:∀b,R b->b<(wr:Nat):=λb hb=>(T b hb).1.2;go_wp2_with (at_builtin;refine stay ?_);refine dI ?_;refine fO (V:=R) bxE _ rfl (.tmp 21) (.tmp 23) rfl (Z A1 q.length c1) q.length (q.flatMap Bx.cells) rfl (((hO.grow l6 eD).grow (λb hb=>by have:=l6 b hb;omega) pG)) ((w1:Nat)+1) (some ⟨(w1:Nat),0,none⟩) 1 1 (Bx.cells ⟨A2,x.length,c2,x⟩) rfl (fF w1 _ 23 _ rfl _ rfl) (VO _) ap ?_;intro v2 w2 sw k7;have z6:=k7.size;simp only[fp] at z6;have hgj:Below (w:Nat) w1 w2:=Below.trans (pG.mono ap) (k7.below (B:=(w:Nat)) (λb hb=>(T b hb).1.1) (by simp;omega));have fk:Grow w w2:=Below.trans (H.trans eD) hgj;have hD2:∀b:Bx,oX w1 D b->oX w2 D b:=λb hb=>(hb.grow pG).just k7 λx Y hr=>(T x hr).2 Y;have M_:∀b:Bx,oX w1 (New wr w1) b->oX w2 (New wr w1) b:=λb hb=>(hb.grow pG).just k7 λx Y hr=>by have:=Y.1;have:=l6 x hr;omega
    go_wp2_with fail;go_roundw;case rel=>
     refine⟨k+k',q++[⟨A2,x.length,c2,x⟩],iY R (w1.alloc (.cells #[Z A2 x.length c2] 23)) w2,λb=>D b∨New wr w1 b,by omega,by go_num,?_,λb hb=>?_,λy hy=>?_,?_,λb hb=>?_,λb hb=>?_,fk⟩;·rw[bL,bJ,cE,bm,bd];exact sw
     ·rcases List.mem_append.1 hb with hb|hb
      ·exact (hD2 b ((kT b hb).grow eD)).mono λ_ => .inl
      ·rw[List.mem_singleton.1 hb];exact (M_ ⟨A2,x.length,c2,x⟩ ⟨It,a3P,zE⟩).mono λ_ => .inr
     ·rw[bI] at hy
      rcases List.mem_append.1 hy with hy|hy
      ·exact h6 y hy
      ·rw[List.mem_singleton.1 hy];exact hx6
     ·rw[bI,qY,HF.out];rfl
     ·rcases hb with hb|⟨I,G⟩
      ·refine⟨⟨(T b hb).1.1,by have:=l6 b hb;omega⟩,λhd=>?_⟩
       rcases hd with hd|hd
       ·exact (T b hb).2 hd
       ·have:=hd.1;have:=l6 b hb;omega
      ·simp only[fp] at I
       refine⟨⟨by omega,G⟩,λhd=>?_⟩;rcases hd with hd|hd
       ·have:=(hD b hd).2;omega
       ·have:=hd.2;omega
     ·rcases hb with hb|hb
      ·have:=hD b hb;exact⟨this.1,by have:=this.2;omega⟩
      ·have I:=hb.1;have G:=hb.2;exact⟨by omega,by omega⟩
    case measure=>simp[intOf];omega
   ·go_wp2_with fail
    go_ret2;exact J_ w1 eD kh
end Go.Proofs.YtpeepcmdehhbgaaGreatDoor.V
