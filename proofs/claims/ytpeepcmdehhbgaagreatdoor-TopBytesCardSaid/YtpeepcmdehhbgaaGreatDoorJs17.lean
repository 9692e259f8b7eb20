/- Ld3. -/
import Derived.Test.YtpeepcmdehhbgaaGreatDoorJs14
import Derived.Test.YtpeepcmdehhbgaaGreatDoorJs10
set_option linter.all false
set_option maxRecDepth 100000
open Go.Value renaming int->ae,slice->Z,string->aX,bool->aY,agg->aZ,tuple->a_
open Go.Ending renaming returned->b5
open Go.IntKind renaming i64->af,u64->ah
open Go (J az aE aA aB aC aD ay aj am ap aw aL aK aJ aI aH aV aU aT aR aQ aP aO aN)
open Go.Proofs.Tryz renaming prog->W
open Nat renaming le_refl->bh,zero_add->cJ
open List renaming length_take->bn,nil_append->ch,length_set->dh
open Go renaming Value->K,World->X,Calls->dz,Addr->dA
namespace Go.Proofs.YtpeepcmdehhbgaaGreatDoor
open RowKit Hop
def Gn(w:X)(g b n c:Nat)(l:List K)(hl:∀u∈l,u.oneCell'=true)(rx:Reads w (w:Nat) 1 (some ⟨g,b,none⟩) n l)(hn:n<=1048576):dz W 189 #[Z (some ⟨g,b,none⟩) n c] w λe O=>∃v,e=b5 v∧Own O (New w O) 3 1 v n l∧Grow w O:=by have kS:=λ(O:X)=>Lib.run_eql_slice_nil (P:=W) O 22 3 (some ⟨g,b,none⟩) n c 0 0 Tryz.underlying22;go_in;go_wp2_with (at_builtin;refine stay ?_);refine dI ?_;refine fO (V:=λb=>b=(w:Nat)) Zt _ rfl (.tmp 5) (.tmp 6) rfl (Z (some ⟨(w:Nat),0,none⟩) 0 0) 0 [] rfl (lC w _ _) (w:Nat) (some ⟨g,b,none⟩) n c l rfl (Reads.alloc rx (bh _) _) hl ap ?_;intro v1 w1 kv wo;simp only[cJ,ch] at kv;obtain⟨kv,eD⟩:=ny kv wo;go_wp2;go_ret;exact⟨_,rfl,kv,eD⟩
section
variable {t nodes:Nat} {pr:List Bool} {ac:aN} {had:Nat} {best:K} {n:Nat} {w:X} {g:Nat}
def most(nodes:Nat)(ac:aN):Int:=(pB (ac.take nodes)).getD ((nodes-1) / 2) 0
theorem DI(V:aV)(hV:V g)(h:vb w g t nodes pr ac had best n)(i:Nat)(hi:i<nodes)(h8:nodes<=8)(m:Nat):dz W 128 #[g,J i,J m] w λe O=>e=b5 (J (most nodes (ac.set i (max (ac.getD i 0) (m:Int)))))∧vb O g t nodes pr (ac.set i (max (ac.getD i 0) (m:Int))) had best n∧dM V w O:=by
 have hN:=Af h i hi;have Yw:i<8:=by omega
 have a4g:(i:Int)<8:=by omega
 obtain⟨abh,HX⟩:=az (max (ac.getD i 0) (m:Int):Int);have Bb:∀ts t w,(Builtin.max_ ts t #[J (ac.getD i 0),J m]).run W w=.ok (J abh) w:=λts t w=>by rw[run_max_int2,HX.out];congr 2;split<;>omega
 rw[<-HX.out];obtain⟨y,HY⟩:=az (ac.getD i 0:Int);have ci:=h.ca Yw;have c1:=h.c1;rw[<-HY.out] at Bb ci;have fi:=h.b.frozen (10+i);go_in;go_wp2_with fail;refine hN.mono ?_;rintro e w1 ⟨rfl,rfl⟩;go_wp2_with fail;go_still_tail 13,(by kernel_rfl);change wpList _ _ _ _ _ w.drew;go_wp2_with fail;have lS:vb (w.setCell ⟨g,10+i,none⟩ (J abh)).drew g t nodes pr (ac.set i abh) had best n:=⟨by have:=h.b.put (10+i) (J abh);rw[W3 h.p h.a Yw] at this;exact this.grow (Grow.refl _).drew,h.p,by rw[dh];exact h.a⟩;have J1:dM V w (w.setCell ⟨g,10+i,none⟩ (J abh)).drew:=((dM.dK (V:=V) (Grow.refl w)).put hV (10+i) (J abh)).trans (dM.dK (Grow.refl _).drew);obtain⟨wa,HA⟩:=az ((w.setCell ⟨g,10+i,none⟩ (J abh)).drew);rw[<-HA.out] at lS J1;clear ci c1 fi Bb h hN;go_wp2_with fail;rw[<-HA.out];have fu:Grow wa wa.drew:=(Grow.refl _).drew;have F9:vb wa.drew g t nodes pr (ac.set i abh) had best n:=⟨lS.b.grow fu,lS.p,lS.a⟩;have c1:=F9.c1;have Ux:(nodes:Int)<=8:=by omega
 obtain⟨l,HL⟩:=az (ac.set i abh);rw[<-HL.out] at lS F9;have wu:l.length=8:=F9.a;have rx:Reads wa.drew wa.drew.heap.size 1 (some (g,10)) nodes (lI (l.take nodes)):=⟨by rw[oZ,bn];omega,λ_=>⟨_,rfl,F9.b.lt,λj u hu=>by
  have hj:j<nodes:=by have:=(List.getElem?_eq_some_iff.1 hu).1;rw[oZ,bn] at this;omega
  have G:=F9.ca (i:=j) ap;rw[zT _ (by rw[bn];omega),List.getElem_take] at hu;cases hu;rw[show ((g,10):dA).add j=⟨g,10+j,none⟩ by unfold Addr.add;split<;>simp_all,G];congr 2;simp[List.getD_eq_getElem?_getD,show j<l.length by omega]⟩⟩
 have hC:=Gn wa.drew g 10 nodes 8 _ (Nr _) rx ap;go_still_tail 8,(by kernel_rfl);change wpList _ _ _ _ _ wa.drew;go_wp2_with fail;refine hC.mono ?_;rintro e w2 ⟨v,rfl,hO,fk⟩;go_wp2_with fail;have fS:(l.take nodes).length=nodes:=by rw[bn];omega
 refine (Kw w2 _ v (l.take nodes) (by rw[fS];exact hO) ap).mono ?_;rintro e w3 ⟨rfl,nt,mz⟩;have ib:Grow wa w3:=Below.trans (fu.trans fk) (mz.below (B:=(wa:Nat)) (λb hb=>hb.1) (fu.trans fk).size);have Qn:vb w3 g t nodes pr l had best n:=⟨lS.b.grow ib,lS.p,lS.a⟩;have c1:=Qn.c1;obtain⟨_,⟨_,h0⟩|⟨g',cap,cur,rfl,_,yO,YU,_,_,j9⟩⟩:=nt;·rw[o_] at h0;omega
 have N:(nodes-1) / 2<nodes:=by omega
 have ck:w3.cell? ⟨g',(nodes-1) / 2,none⟩=some (J (most nodes l)):=by rw[cell_of_row _ _ _ _ _ _ yO,<-Array.getElem?_toList];have:=congrArg (λx=>x[(nodes-1) / 2]?) j9;simp only[List.getElem?_take,lI] at this;rw[aA (by rw[o_,fS];omega)] at this;rw[this,List.getElem?_map];unfold most;simp[List.getD_eq_getElem?_getD,o_,fS,N]
 have wv:IntKind.i64.wrap ((nodes:Int)-1)=((nodes-1:Nat):Int):=by rw[IntKind.wrap_i64];omega
 rw[o_,fS];go_wp2;go_ret;rw[<-HL.out];exact⟨rfl,Qn,J1.trans (dM.dK ib)⟩
end
end Go.Proofs.YtpeepcmdehhbgaaGreatDoor
