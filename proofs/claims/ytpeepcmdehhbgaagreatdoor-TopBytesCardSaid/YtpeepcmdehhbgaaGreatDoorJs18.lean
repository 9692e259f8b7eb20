/- Lstrs, Ltext, Lparse. -/
import Derived.Test.YtpeepcmdehhbgaaGreatDoorJs15
import Derived.Shelf.Strings.SplitCore
import Derived.Shelf.Strings.Search3
import Derived.Shelf.Strings.Count
import Derived.Shelf.Strings.OnBuilder
set_option linter.all false
set_option maxRecDepth 100000
set_option maxHeartbeats 2000000
open Go.Value renaming int->ae,slice->Z,string->aX,bool->aY,agg->aZ,tuple->a_
open Go.Ending renaming returned->b5
open Go.IntKind renaming i64->af,u64->ah
open Go (J az aE aA aB aC aD ay aj am ap aw aL aK aJ aI aH aV aU aT aR aQ aP aO aN)
open Go.Proofs.Tryz renaming prog->W,underlying9->cW,underlying23->d9,underlying5->dm,underlying3->dp
open Go.Lib renaming hid->Q
open Nat renaming le_refl->bh,zero_le->bo,eq_zero_or_pos->b_,zero_add->cJ
open List renaming length_map->bj,length_take->bn,append_assoc->bp,take_succ_eq_append_getElem->br,eq_nil_of_length_eq_zero->bu,length_cons->bD,getElem_mem->bF,take_of_length_le->bH,map_append->bI,flatMap_append->bL,length_drop->bO,mem_cons_of_mem->bR,mem_cons_self->cj,size_toArray->cy,map_congr_left->cO,getElem_map->di
open Bool renaming and_eq_true->bU
open Array renaming length_toList->bZ
open Go renaming World->X,Calls->dz,maxLen->dG
variable{s:aR}
section
namespace Go.Proofs.YtpeepcmdehhbgaaGreatDoor.abn
open Go.Shelf
def Av:Go.Shelf.Ren:=⟨λ|156=>205|165=>268|166=>269|169=>270|240=>326|241=>327|276=>360|277=>361|n=>n,λ|31=>59|9=>9|3=>3|4=>4|0=>0|20=>20|72=>357|76=>361|70=>355|37=>23|75=>360|127=>401|164=>424|5=>5|80=>132|n=>n,λ|n=>n⟩
def joinL:Go.Proofs.Lays.n156 W Av:={
 mixed:=by kernel_rfl
 f156:=Tryz.func205.trans (congrArg some aw)
 f165:=Tryz.func268.trans (congrArg some aw)
 f166:=Tryz.func269.trans (congrArg some aw)
 f169:=Tryz.func270.trans (congrArg some aw)
 f240:=Tryz.func326.trans (congrArg some aw)
 f241:=Tryz.func327.trans (congrArg some aw)
 f276:=Tryz.func360.trans (congrArg some aw)
 f277:=Tryz.func361.trans (congrArg some aw)
 t0:=Tryz.underlying0
 a0:=Tryz.isAgg0
 z0:=Tryz.sizeOf0
 v0:=Tryz.zeroValue0
 t3:=dp
 a3:=Tryz.isAgg3
 z3:=Tryz.sizeOf3
 v3:=Tryz.zeroValue3
 t4:=Tryz.underlying4
 a4:=Tryz.isAgg4
 z4:=Tryz.sizeOf4
 v4:=Tryz.zeroValue4
 t9:=cW
 a9:=Tryz.isAgg9
 z9:=Tryz.sizeOf9
 v9:=Tryz.zeroValue9
 t20:=Tryz.underlying20
 a20:=Tryz.isAgg20
 z20:=Tryz.sizeOf20
 v20:=Tryz.zeroValue20
 t31:=Tryz.underlying59
 a31:=Tryz.isAgg59
 z31:=Tryz.sizeOf59
 v31:=Tryz.zeroValue59
 t37:=d9
 a37:=Tryz.isAgg23
 z37:=Tryz.sizeOf23
 v37:=Tryz.zeroValue23
 t70:=Tryz.underlying355
 a70:=Tryz.isAgg355
 z70:=Tryz.sizeOf355
 v70:=Tryz.zeroValue355
 t72:=Tryz.underlying357
 a72:=Tryz.isAgg357
 z72:=Tryz.sizeOf357
 v72:=Tryz.zeroValue357
 t75:=Tryz.underlying360
 a75:=Tryz.isAgg360
 z75:=Tryz.sizeOf360
 v75:=Tryz.zeroValue360
 t76:=Tryz.underlying361
 a76:=Tryz.isAgg361
 z76:=Tryz.sizeOf361
 v76:=Tryz.zeroValue361
 t127:=Tryz.underlying401
 a127:=Tryz.isAgg401
 z127:=Tryz.sizeOf401
 v127:=Tryz.zeroValue401
 t164:=Tryz.underlying424
 a164:=Tryz.isAgg424
 z164:=Tryz.sizeOf424
 v164:=Tryz.zeroValue424 }
def nZ:Go.Shelf.Ren:=⟨λ|221=>201|268=>260|138=>261|143=>262|195=>318|197=>319|218=>320|219=>263|260=>355|217=>321|225=>322|224=>323|267=>324|266=>356|314=>357|n=>n,λ|9=>9|3=>3|31=>59|4=>4|0=>0|105=>397|21=>21|5=>5|46=>62|119=>438|139=>441|138=>440|146=>420|51=>61|n=>n,λ|1=>0|3=>1|4=>2|n=>n⟩
def uC:Go.Proofs.Lays.n221 W nZ:={
 mixed:=by kernel_rfl
 f138:=Tryz.func261.trans (congrArg some aw)
 f143:=Tryz.func262.trans (congrArg some aw)
 f195:=Tryz.func318.trans (congrArg some aw)
 f197:=Tryz.func319.trans (congrArg some aw)
 f217:=Tryz.func321.trans (congrArg some aw)
 f218:=Tryz.func320.trans (congrArg some aw)
 f219:=Tryz.func263.trans (congrArg some aw)
 f221:=Tryz.func201.trans (congrArg some aw)
 f224:=Tryz.func323.trans (congrArg some aw)
 f225:=Tryz.func322.trans (congrArg some aw)
 f260:=Tryz.func355.trans (congrArg some aw)
 f266:=Tryz.func356.trans (congrArg some aw)
 f267:=Tryz.func324.trans (congrArg some aw)
 f268:=Tryz.func260.trans (congrArg some aw)
 f314:=Tryz.func357.trans (congrArg some aw)
 t0:=Tryz.underlying0
 a0:=Tryz.isAgg0
 z0:=Tryz.sizeOf0
 v0:=Tryz.zeroValue0
 t3:=dp
 a3:=Tryz.isAgg3
 z3:=Tryz.sizeOf3
 v3:=Tryz.zeroValue3
 t4:=Tryz.underlying4
 a4:=Tryz.isAgg4
 z4:=Tryz.sizeOf4
 v4:=Tryz.zeroValue4
 t5:=dm
 a5:=Tryz.isAgg5
 z5:=Tryz.sizeOf5
 v5:=Tryz.zeroValue5
 t9:=cW
 a9:=Tryz.isAgg9
 z9:=Tryz.sizeOf9
 v9:=Tryz.zeroValue9
 t21:=Tryz.underlying21
 a21:=Tryz.isAgg21
 z21:=Tryz.sizeOf21
 v21:=Tryz.zeroValue21
 t31:=Tryz.underlying59
 a31:=Tryz.isAgg59
 z31:=Tryz.sizeOf59
 v31:=Tryz.zeroValue59
 t46:=Tryz.underlying62
 a46:=Tryz.isAgg62
 z46:=Tryz.sizeOf62
 v46:=Tryz.zeroValue62
 t51:=Tryz.underlying61
 a51:=Tryz.isAgg61
 z51:=Tryz.sizeOf61
 v51:=Tryz.zeroValue61
 t105:=Tryz.underlying397
 a105:=Tryz.isAgg397
 z105:=Tryz.sizeOf397
 v105:=Tryz.zeroValue397
 t119:=Tryz.underlying438
 a119:=Tryz.isAgg438
 z119:=Tryz.sizeOf438
 t138:=Tryz.underlying440
 a138:=Tryz.isAgg440
 z138:=Tryz.sizeOf440
 v138:=Tryz.zeroValue440
 t139:=Tryz.underlying441
 a139:=Tryz.isAgg441
 z139:=Tryz.sizeOf441
 v139:=Tryz.zeroValue441
 t146:=Tryz.underlying420
 a146:=Tryz.isAgg420
 z146:=Tryz.sizeOf420
 v146:=Tryz.zeroValue420
 g1:=by kernel_rfl
 g3:=by kernel_rfl
 g4:=by kernel_rfl }
def DJ:Go.Shelf.Ren:=⟨λ|145=>146|220=>202|219=>263|217=>321|225=>322|224=>323|267=>324|266=>356|314=>357|n=>n,λ|9=>9|4=>4|59=>245|3=>3|5=>5|46=>62|146=>420|51=>61|n=>n,λ|1=>0|n=>n⟩
def R8:Go.Proofs.Lays.n145 W DJ:={
 mixed:=by kernel_rfl
 f145:=Tryz.func146.trans (congrArg some aw)
 f217:=Tryz.func321.trans (congrArg some aw)
 f219:=Tryz.func263.trans (congrArg some aw)
 f220:=Tryz.func202.trans (congrArg some aw)
 f224:=Tryz.func323.trans (congrArg some aw)
 f225:=Tryz.func322.trans (congrArg some aw)
 f266:=Tryz.func356.trans (congrArg some aw)
 f267:=Tryz.func324.trans (congrArg some aw)
 f314:=Tryz.func357.trans (congrArg some aw)
 t3:=dp
 a3:=Tryz.isAgg3
 z3:=Tryz.sizeOf3
 v3:=Tryz.zeroValue3
 t4:=Tryz.underlying4
 a4:=Tryz.isAgg4
 z4:=Tryz.sizeOf4
 v4:=Tryz.zeroValue4
 t5:=dm
 a5:=Tryz.isAgg5
 z5:=Tryz.sizeOf5
 v5:=Tryz.zeroValue5
 t9:=cW
 a9:=Tryz.isAgg9
 z9:=Tryz.sizeOf9
 v9:=Tryz.zeroValue9
 t46:=Tryz.underlying62
 a46:=Tryz.isAgg62
 z46:=Tryz.sizeOf62
 v46:=Tryz.zeroValue62
 t51:=Tryz.underlying61
 a51:=Tryz.isAgg61
 z51:=Tryz.sizeOf61
 v51:=Tryz.zeroValue61
 t59:=Tryz.underlying245
 a59:=Tryz.isAgg245
 z59:=Tryz.sizeOf245
 v59:=Tryz.zeroValue245
 t146:=Tryz.underlying420
 a146:=Tryz.isAgg420
 z146:=Tryz.sizeOf420
 v146:=Tryz.zeroValue420
 g1:=by kernel_rfl }
def Uy:Go.Proofs.Builder.Extra W Av:={
 sizeBuilder:=by kernel_rfl
 liesBuilder:=by kernel_rfl
 t5:=dm
 a5:=Tryz.isAgg5
 z5:=Tryz.sizeOf5
 v5:=Tryz.zeroValue5
 infoByte:=by kernel_rfl
 cellsByte:=by kernel_rfl
 sizeByte:=by kernel_rfl
 neB5:=by decide }
end Go.Proofs.YtpeepcmdehhbgaaGreatDoor.abn
namespace Go.Proofs.YtpeepcmdehhbgaaGreatDoor.abn
open Go.RowKit Go.Hop Go.Shelf
def NR(w:X)(V:aV)(A:aU)(n c:Nat)(xs:List ByteArray)(sep:aR)(h:In w V 1 A n (xs.map Value.string))(hn:n<=c)(Ya:n<=140737488355328)(fj:(Lib.join (xs.map (·.data.toList)) sep.data.toList).length<=140737488355328):dz W 205 #[Z A n c,aX sep] w λe O=>e=b5 (aX (mk (Lib.join (xs.map (·.data.toList)) sep.data.toList)))∧Grow w O:=by
 have hl:xs.length=n:=by have:=h.1;simpa using this
 rcases b_ n with h0|h0
 ·subst h0
  obtain rfl:xs=[]:=bu hl;refine (Go.Proofs.Any.strings_Join_none joinL Uy A c sep w).mono ?_;rintro e O ⟨he,rfl⟩;exact⟨he,Grow.refl _⟩
 ·obtain⟨ad,rfl,_,hb,E⟩:=h.2 h0
  obtain⟨bk,o,m⟩:=ad;have hm:m=none:=by
   have I:=E 0 (aX xs[0]) (by rw[List.getElem?_map,List.getElem?_eq_getElem ap];rfl);cases m with
   | none=>rfl
   | some m=>
     simp only[World.cell?,Addr.add] at I;split at I<;>simp at I
  subst hm;subst hl;exact Go.Proofs.Any.strings_Join joinL Uy bk o c xs sep w (λj x Y=>by have:=E j (aX x) (by rw[List.getElem?_map,Y];rfl);rwa [Addr.add_lit] at this) hb Ya hn fj
def Aw(c:UInt8)(s:aR):(Lib.splitB ⟨#[c]⟩ 0 (Lib.countB s ⟨#[c]⟩) s)=(ey c s.data.toList).map mk:=by
 have h:=Lib.splitB_data ⟨#[c]⟩ 0 (Lib.countB s ⟨#[c]⟩) s;have G:Lib.splitK [c] 0 (Lib.countB s ⟨#[c]⟩) s.data.toList=ey c s.data.toList:=DC c _ _ (bh _);have L:(Lib.splitB ⟨#[c]⟩ 0 (Lib.countB s ⟨#[c]⟩) s).map (·.data.toList)=ey c s.data.toList:=h.trans G;rw[<-L,List.map_map];conv=>lhs;rw[<-List.map_id (Lib.splitB ⟨#[c]⟩ 0 (Lib.countB s ⟨#[c]⟩) s)]
 exact cO λx _=>rfl
theorem xJ(c:UInt8):∀s:aT,(ey c s).length<=s.length+1
 | []=>by simp[ey]
 | b::r=>by
   have ih:=xJ c r;unfold ey;split;·simp only[bD];omega
   ·split
    ·simp
    ·rename_i p ps e
     rw[e] at ih;simp only[bD] at ih ⊢;omega
def KN(w:X)(s:aR)(c:UInt8)(hs:s.size<4294967281):dz W 145 #[aX s,aX ⟨#[c]⟩] w λe O=>∃A,e=b5 (Z A (ey c s.data.toList).length (ey c s.data.toList).length)∧In O (New w O) 1 A (ey c s.data.toList).length (((ey c s.data.toList).map mk).map Value.string)∧Grow w O:=by
 have I:1<=(⟨#[c]⟩:ByteArray).size:=by show 1<=1;omega
 have mn:=Lib.countB_le ⟨#[c]⟩ I s.size s (bh _);have fj:=Lib.splitB_all ⟨#[c]⟩ I 0 _ s rfl;have Qo:∀w,dz W 261 #[aX s,aX ⟨#[c]⟩] w λe O=>e=b5 (J (Lib.countB s ⟨#[c]⟩))∧O=w:=λw=>by refine (Go.Proofs.Any.strings_Count_one (P:=W) (ρ:=nZ) { uC with } s c w).mono λe O ⟨he,hw⟩=>⟨?_,hw⟩;rw[he];show _=Ending.returned (Value.int .i64 ((Lib.count s.data.toList [c]:Nat):Int));rw[Lib.count_one];rfl
 have hcon:=Go.Proofs.Any.strings_genSplit_core uC aw s ⟨#[c]⟩ 0 (-1) (Lib.countB s ⟨#[c]⟩+1) w hs I (bo _)
  (λx cs Y=>by refine (Go.Proofs.Any.strings_Index_one (P:=W) (ρ:=nZ) { uC with } x c _).mono λe O ⟨he,hw⟩=>⟨?_,hw⟩;rw[he];show _=Ending.returned (Value.int .i64 (Lib.index x.data.toList [c]));rw[Lib.index_one]) (Qo w) am am (by rw[aA am];omega)
 rw[Nat.add_sub_cancel,fj] at hcon;have e2:Lib.cellsOf (Lib.splitB ⟨#[c]⟩ 0 (Lib.countB s ⟨#[c]⟩) s) (Lib.countB s ⟨#[c]⟩+1)=((Lib.splitB ⟨#[c]⟩ 0 (Lib.countB s ⟨#[c]⟩) s).map Value.string).toArray:=by rw[<-fj];exact Lib.cellsOf_full _
 rw[e2,Aw] at hcon;have Be:Lib.countB s ⟨#[c]⟩+1=(ey c s.data.toList).length:=by rw[<-fj,Aw,bj]
 rw[Be] at hcon;change dz W 201 #[aX s,aX ⟨#[c]⟩,(),J (-1)] w _ at hcon;have hI:∀w1,w1=w.alloc (.cells (((ey c s.data.toList).map mk).map Value.string).toArray 9)->In w1 (New w w1) 1 (some ⟨(w:Nat),0,none⟩) (ey c s.data.toList).length (((ey c s.data.toList).map mk).map Value.string)∧Grow w w1:=λw1 hw=>by
  have H:Grow w w1:=by rw[hw];exact (Below.refl _ _).alloc (bh _) _
  refine⟨⟨by simp,λhn=>⟨_,rfl,⟨bh _,by rw[hw];simp⟩,by rw[hw];simp,λj u hu=>?_⟩⟩,H⟩;rw[Addr.add_lit,cJ,hw];exact ((eJ.made w 9 _).cell j).trans (by simpa using hu)
 generalize (ey c s.data.toList).length=k at hcon hI ⊢;generalize ((ey c s.data.toList).map mk).map Value.string=xs at hcon hI ⊢;clear fj mn Qo e2 Be I;go_in;go_wp2_with fail;refine hcon.mono ?_;rintro e w1 ⟨rfl,hw⟩;have G:=Q (hI w1 hw);clear hcon hI hw;go_wp2;go_ret;exact⟨_,rfl,G.out.1,G.out.2⟩
def DK(w:X)(s:aR)(c:UInt8)(hs:s.size<4294967281):dz W 202 #[aX s,aX ⟨#[c]⟩] w λe O=>e=b5 (a_ #[aX (mk (Lib.cut s.data.toList [c]).1),aX (mk (Lib.cut s.data.toList [c]).2.1),aY (Lib.cut s.data.toList [c]).2.2])∧∃n,O=w.drewN n:=by
 have NS:∀w,dz W 263 #[aX s,aX ⟨#[c]⟩] w λe O=>e=b5 (J (Lib.indexB s ⟨#[c]⟩))∧O=w:=λw=>by refine (Go.Proofs.Any.stringslite_Index_one (P:=W) (ρ:=DJ) { R8 with } s c w).mono λe O ⟨he,hw⟩=>⟨?_,hw⟩;rw[he];show _=Ending.returned (Value.int .i64 (Lib.index s.data.toList [c]));rw[Lib.index_one]
 rcases Lib.indexB_cases s ⟨#[c]⟩ with Qp|⟨i,Qp,rH⟩
 ·obtain⟨e1,e2,e3⟩:=Lib.cutB_miss s ⟨#[c]⟩ Qp
  change mk (Lib.cut s.data.toList [c]).1=_ at e1;change mk (Lib.cut s.data.toList [c]).2.1=_ at e2;change (Lib.cut s.data.toList [c]).2.2=_ at e3;rw[e1,e2,e3];rw[Qp] at NS;clear e1 e2 e3;go_in;go_wp2_with fail;refine (NS _).mono ?_;rintro e O ⟨rfl,rfl⟩;go_wp2_with fail;go_ret3;exact⟨rfl,0,rfl⟩
 ·obtain⟨e1,e2,e3⟩:=Lib.cutB_hit s ⟨#[c]⟩ i Qp
  change mk (Lib.cut s.data.toList [c]).1=_ at e1;change mk (Lib.cut s.data.toList [c]).2.1=_ at e2;change (Lib.cut s.data.toList [c]).2.2=_ at e3;rw[e1,e2,e3];rw[Qp] at NS;have iZ:(⟨#[c]⟩:ByteArray).size=1:=rfl;rw[iZ] at rH ⊢;have c1:(0:Int)<=↑i:=by omega
  have c2:(↑i:Int)<=↑s.size:=by omega
  have c3:(0:Int)<=↑i+1:=by omega
  have c4:(↑i+1:Int)<=↑s.size:=by omega
  clear e1 e2 e3;go_in;go_wp2_with fail;refine (NS _).mono ?_;rintro e O ⟨rfl,rfl⟩;clear NS;go_wp2_with fail;go_region;all_goals go_wp2
  all_goals go_ret3
  all_goals exact⟨rfl,1,rfl⟩
def sJ(w:X)(s:aR)(c:UInt8)(hs:s.size<4294967281):dz W 146 #[aX s,aX ⟨#[c]⟩] w λe O=>e=b5 (a_ #[aX (mk (Lib.cut s.data.toList [c]).1),aX (mk (Lib.cut s.data.toList [c]).2.1),aY (Lib.cut s.data.toList [c]).2.2])∧Grow w O:=by
 have hcon:=DK w s c hs;generalize mk (Lib.cut s.data.toList [c]).1=x at hcon ⊢;generalize mk (Lib.cut s.data.toList [c]).2.1=y at hcon ⊢;generalize (Lib.cut s.data.toList [c]).2.2=z at hcon ⊢;go_in;go_wp2_with fail;refine hcon.mono ?_;rintro e O ⟨rfl,n,rfl⟩;clear hcon;have H:Grow w (w.drewN n):=by
  have:∀n,Grow w (w.drewN n):=λn=>by
   induction n with
   | zero=>exact Grow.refl _
   | succ n ih=>exact ih.drew
  exact this n
 generalize w.drewN n=w1 at H ⊢;go_wp2_with fail;go_ret3;exact⟨rfl,H⟩
end Go.Proofs.YtpeepcmdehhbgaaGreatDoor.abn
end
namespace Go.Proofs.YtpeepcmdehhbgaaGreatDoor.abn
open RowKit Hop
def eqB:ByteArray:={ data:=#[61] }
def NT:ByteArray:={ data:=#[44] }
def q7(d:Lb):ByteArray:=d.1++eqB++d.2
def DL(a b:aR):(a++b).data.toList=a.data.toList++b.data.toList:=by rw[ByteArray.data_append,Array.toList_append]
def Gp(d:Lb):(q7 d).data.toList=ox d:=by unfold q7 ox;rw[DL,DL,bp];rfl
def NU{d:Lb}(h:CH d=true):d.1.size<=32∧d.2.size<=32:=by unfold CH at h;simp only[bU] at h;exact⟨(lg h.1).2,(lg h.2).2⟩
def uD{l:List Lb}(h:gK l=0):textOf l=txt (can l):=by unfold textOf;rw[aA h]
def NV{l:List Lb}(h:gK l≠0):textOf l={ data:=#[] }:=by unfold textOf;rw[aB h];rfl
def xj(w:X)(V:aV)(A:aU)(n c:Nat)(l:List Lb)(h:In w V 2 A n (gF l))(hl:∀d∈l,d.1.size<=dG∧d.2.size<=dG)(hn:n<=9223372036854775807):dz W 147 #[Z A n c] w λe O=>e=b5 (a_ #[aX (textOf l),J (gK l)])∧Grow w O:=by
 have Yx:=oy w V A n c l h hl hn;have wu:=LIn.len h;by_cases T:gK l=0
 ·obtain⟨h8,hf⟩:=xH T
  obtain⟨gC,pJ,_⟩:=(mP l).1 hf;rw[T] at Yx ⊢;rw[uD T];have Ux:n<=8:=by omega
  clear hf;obtain⟨abm,HT⟩:=az (txt (can l):ByteArray);rw[<-HT.out];go_in;go_wp2_with fail;refine Yx.mono ?_;rintro e w1 ⟨rfl,eD⟩;clear Yx;have Qm:=xp w1 V A n c l (h.grow eD) ap;go_wp2_with fail;refine Qm.mono ?_;rintro e w2 ⟨A1,q,rfl,hq,hI,fk⟩;clear Qm h;have ZI:=eQ eD fk eD.size;have Z2:q=can l:=hq.a49 pJ;have vv:∀d∈q,CH d=true:=λd hd=>gC d (hq.perm.mem_iff.1 hd);have ig:q.length=n:=by rw[hq.len];exact wu
  have HQC:=Q Z2;have J2:=Q ig;clear Z2 ig wu T pJ;go_wp2_with fail;go_loopw [5,16] (λo i wr=>∃k:Nat,k<=n∧i=J k∧Own wr (New w2 wr) 9 1 o k (((q.take k).map q7).map Value.string)∧Grow w2 wr) (λ_ i _=>n-(intOf i).toNat);case atStart=>exact⟨0,by omega,rfl,Own.nil,Grow.refl _⟩
  case round=>
   obtain⟨i,kT,rfl,hO,gP⟩:=hrel;obtain⟨Ab,cb,rfl,vz,K4,hmb⟩:=hO.jL;have Fw:=gP.size;by_cases hi:i<n
   ·have hit:decide ((i:Int)<(n:Int))=true:=aC ap
    obtain⟨ad,Qh,rfl,e0,e1⟩:=FQ (hI.grow gP) hi;have Mk:=e0 wr (Grow.refl _);have Ut:=e1 wr (Grow.refl _);have hdo:=vv _ (bF Qh);have j9:Hid (((q.take (i+1)).map q7).map Value.string=((q.take i).map q7).map Value.string++[q7 q[i]].map Value.string):=Q (by rw[br Qh,bI,bI];rfl)
    generalize q[i]=d at Mk Ut hdo j9;have tS:=NU hdo;clear e0 e1 vz;go_wp2_with (at_builtin;refine stay ?_);refine dI ?_;have fu:Grow wr ((wr.alloc (.cells #[aX d.1,aX d.2] 66)).alloc (.cells #[aX (d.1++{ data:=#[61] }++d.2)] 9)):=((Below.refl _ _).alloc (bh _) _).alloc (by simp) _;refine fO (V:=New w2 wr) a3L _ rfl (.tmp 20) (.tmp 27) rfl (Z Ab i cb) i (((q.take i).map q7).map Value.string) rfl (hO.grow (λb hb=>hb.2) fu) ((wr:Nat)+1+1) (some ⟨(wr:Nat)+1,0,none⟩) 1 1 ([q7 d].map Value.string) rfl (fF (wr.alloc (.cells #[aX d.1,aX d.2] 66)) #[aX (d.1++{ data:=#[61] }++d.2)] 9 (0,0) (n:=1) (size:=1) rfl ((wr:Nat)+1) (by simp)) (FP _) ap ?_;intro v5 w5 Ro ra;have hs5:=ra.size;simp at hs5;rw[<-j9.out] at Ro;have hO6:Own w5 (New w2 w5) 9 1 v5 (i+1) (((q.take (i+1)).map q7).map Value.string):=by
     refine Ro.mono λb hb=>?_;rcases hb with hb|hb
     ·exact⟨hb.1,by have:=hb.2;omega⟩
     ·have h6:=hb.1
      simp at h6;exact⟨by omega,hb.2⟩
    have tW:Grow w2 w5:=Below.trans (eQ gP fu Fw) (ra.below (B:=(w2:Nat)) (λb hb=>hb.1) (by simp;omega));clear Ro ra hO fu Mk Ut;go_wp2_with fail;go_roundw;case rel=>exact⟨i+1,by omega,by go_num,hO6,tW⟩
    case measure=>simp[intOf];omega
   ·obtain rfl:n=i:=by omega
    have hit:decide ((n:Int)<(n:Int))=false:=aD ap;have Zr:q.take n=q:=bH (by have:=J2.out;omega);rw[Zr] at vz;have htl:=RU q vv;have RV:=J2.out;have e:(q.map q7).map (·.data.toList)=q.map ox:=by rw[List.map_map];exact cO λd _=>Gp d
    have hjo:=NR wr _ Ab n cb (q.map q7) NT vz K4 ap (by rw[e];show (Gi q).length<=_;omega);rw[e] at hjo;have hT:mk (Lib.join (q.map ox) NT.data.toList)=abm:=by rw[HT.out,<-HQC.out];rfl
    rw[hT] at hjo;clear e Zr htl RV hO vz hT;have jU:=eQ ZI gP ZI.size;go_wp2_with fail;refine hjo.mono ?_;rintro e w8 ⟨rfl,hg8⟩;clear hjo;go_wp2;go_ret2;exact⟨rfl,eQ jU hg8 jU.size⟩
 ·rw[NV T]
  have gS:(gK l == 0)=false:=beq_eq_false_iff_ne.2 T;generalize gK l=R at Yx T gS ⊢;go_in;go_wp2_with fail;refine Yx.mono ?_;rintro e w1 ⟨rfl,eD⟩;clear Yx;go_wp2;go_ret2;exact⟨rfl,eD⟩
theorem qa(c:UInt8):∀(s:aT),∀p∈ey c s,p.length<=s.length
 | [],p,h=>by
   rw[ey,List.mem_singleton] at h;rw[h];exact bh _
 | b::r,p,h=>by
   have ih:=qa c r;unfold ey at h;split at h
   ·rcases List.mem_cons.1 h with rfl|h
    ·exact bo _
    ·have:=ih p h;rw[bD];omega
   ·split at h
    ·rw[List.mem_singleton.1 h];simp
    ·rename_i q qs e
     rcases List.mem_cons.1 h with rfl|h
     ·have:=ih q (by rw[e];exact cj)
      rw[bD,bD];omega
     ·have:=ih p (by rw[e];exact bR _ h)
      rw[bD];omega
def zj(p:aT):(jf p).1.size<=p.length∧(jf p).2.size<=p.length:=by
 have e:∀l:aT,(mk l).size=l.length:=λl=>by show l.toArray.size=_;rw[cy]
 unfold jf;rw[e,e];unfold Lib.cut;split;·exact⟨by rw[bn];omega,by rw[bO];omega⟩
 ·exact⟨bh _,bo _⟩
def xK(s:aR):s.data.toList.length=s.size:=by rw[bZ];rfl
def BS(hs:s.size<=1000000):∀d∈fM s,d.1.size<=dG∧d.2.size<=dG:=λd hd=>by obtain⟨p,hp,rfl⟩:=List.mem_map.1 hd;have I:=qa 44 _ p hp;have G:=zj p;rw[xK] at I;unfold dG;omega
def Ax(h:gK (fM s)≠0):fW s=12∧nY s=[]:=by
 have:mx s=false:=by unfold mx;rw[aD h,Bool.false_and]
 unfold fW nY;rw[this];exact⟨rfl,rfl⟩
def KO(h:textOf (fM s)≠s):fW s=12∧nY s=[]:=by
 by_cases h0:gK (fM s)=0
 ·rw[uD h0] at h
  have:mx s=false:=by unfold mx;rw[aD h,Bool.and_false]
  unfold fW nY;rw[this];exact⟨rfl,rfl⟩
 ·exact Ax h0
def KP(h0:gK (fM s)=0)(h:textOf (fM s)=s):fW s=0∧nY s=fM s:=by
 rw[uD h0] at h;have:mx s=true:=by unfold mx;rw[aC h0,aC h];rfl
 unfold fW nY;rw[this];exact⟨rfl,rfl⟩
def qL(w:X)(s:aR)(hs:s.size<=1000000):dz W 84 #[aX s] w λe O=>∃A c,e=b5 (a_ #[Z A (nY s).length c,J (fW s)])∧In O (New w O) 2 A (nY s).length (gF (nY s))∧(nY s).length<=c∧Grow w O:=by
 have hsp:=KN w s 44 ap;obtain⟨P,HP⟩:=az (ey 44 s.data.toList);have HL:Hid (fM s=P.map jf):=Q (by rw[HP.out];rfl);have hPl:P.length<=s.size+1:=by rw[HP.out,<-xK];exact xJ 44 _
 have hps:∀p∈P,p.length<=s.size:=λp hp=>by have:=qa 44 s.data.toList p (by rw[<-HP.out];exact hp);rwa [xK] at this
 rw[<-HP.out] at hsp;obtain⟨abk,HK⟩:=az (P.length:Nat);rw[<-HK.out] at hsp hPl;go_in;go_wp2_with fail;refine hsp.mono ?_;rintro e w1 ⟨A,rfl,hI,eD⟩;clear hsp;go_wp2_with fail;go_loopw [4,15] (λo i wr=>∃k:Nat,k<=abk∧i=J k∧Own wr (New w1 wr) 66 2 o k (gF ((P.take k).map jf))∧Grow w1 wr) (λ_ i _=>abk-(intOf i).toNat);case atStart=>exact⟨0,by omega,rfl,Own.nil,Grow.refl _⟩
 case round=>
  obtain⟨i,hiK,rfl,hO,gP⟩:=hrel;obtain⟨Ab,cb,rfl,vz,K4,hmb⟩:=hO.jL;have Fw:=gP.size;by_cases hi:i<abk
  ·have hit:decide ((i:Int)<(abk:Int))=true:=aC ap
   have hI':In wr (New w w1) 1 A abk ((P.map mk).map Value.string):=hI.grow gP;obtain⟨ad,Qh,rfl,e0⟩:=VB hI' hi;have Mk:=e0 wr (Grow.refl _);rw[di] at Mk;have hqP:i<P.length:=by simpa using Qh
   have hpm:=hps _ (bF hqP);have j9:Hid (gF ((P.take (i+1)).map jf)=gF ((P.take i).map jf)++gF [jf P[i]]):=Q (by rw[br hqP,bI];unfold gF;rw[bL];rfl)
   generalize P[i]=p at Mk hpm j9;have Uz:=sJ wr (mk p) 61 (by show p.toArray.size<_;rw[cy];omega);rw[mk_data] at Uz;have Vi:Hid (jf p=(mk (Lib.cut p [61]).1,mk (Lib.cut p [61]).2.1)):=Q rfl;generalize mk (Lib.cut p [61]).1=x at Uz Vi;generalize mk (Lib.cut p [61]).2.1=y at Uz Vi;generalize (Lib.cut p [61]).2.2=z at Uz;clear e0 hI' vz;go_wp2_with fail;refine Uz.mono ?_;rintro e w3 ⟨rfl,ib⟩;clear Uz Mk;have Mb:=ib.size;have fu:Grow w3 (w3.alloc (.cells #[aX x,aX y] 66)):=(Below.refl _ _).alloc (bh _) _;have nt:=hO.grow (λb hb=>hb.2) ib;go_wp2_with (at_builtin;refine stay ?_);refine dI ?_;refine fO (V:=New w1 wr) MR _ rfl (.tmp 25) (.tmp 29) rfl (Z Ab i cb) i (gF ((P.take i).map jf)) rfl (nt.grow (λb hb=>by have:=hb.2;omega) fu) ((w3:Nat)+1) (some ⟨(w3:Nat),0,none⟩) 1 1 (gF [jf p]) rfl (by rw[Vi.out];exact fF w3 #[aX x,aX y] 66 (0,0) (n:=1) (size:=2) rfl (w3:Nat) rfl) (wZ _) ap ?_;intro v5 w5 Ro ra;have hs5:=ra.size;simp at hs5;rw[<-j9.out] at Ro;have hO6:Own w5 (New w1 w5) 66 2 v5 (i+1) (gF ((P.take (i+1)).map jf)):=by
    refine Ro.mono λb hb=>?_;rcases hb with hb|hb
    ·exact⟨hb.1,by have:=hb.2;omega⟩
    ·have h6:=hb.1
     simp at h6;exact⟨by omega,hb.2⟩
   have tW:Grow w1 w5:=Below.trans (eQ (eQ gP ib Fw) fu ap) (ra.below (B:=(w1:Nat)) (λb hb=>hb.1) (by simp;omega));clear Ro ra hO nt fu;go_wp2_with fail;go_roundw;case rel=>exact⟨i+1,by omega,by go_num,hO6,tW⟩
   case measure=>simp[intOf];omega
  ·obtain rfl:abk=i:=by omega
   have hit:decide ((abk:Int)<(abk:Int))=false:=aD ap;have hPt:(P.take abk).map jf=fM s:=by rw[HL.out,bH (by have:=HK.out;omega)]
   rw[hPt] at vz;have hls:=BS hs;have Qq:=xj wr _ Ab abk cb (fM s) vz hls ap;have hKl:Hid ((fM s).length=abk):=Q (LIn.len vz);have jU:=eQ eD gP eD.size;have QI:=eD.size;clear hPt hO hls;by_cases T:gK (fM s)=0
   ·have zF:(gK (fM s) == 0)=true:=by rw[T];rfl
    by_cases hT:textOf (fM s)=s
    ·have HY:=Q (KP T hT)
     rw[T,hT] at Qq;clear T hT zF;go_wp2_with fail;refine Qq.mono ?_;rintro e w5 ⟨rfl,ng⟩;clear Qq;go_wp2_with (go_at_call 148;refine (Dj _ _ _ _ K4).mono ?_;rintro e O ⟨rfl,rfl⟩);go_ret2;have hs5:=ng.size;rw[HY.out.1,HY.out.2,hKl.out];exact⟨Ab,abk,rfl,(vz.grow ng).mono λb hb=>⟨by have:=hb.1;omega,by have:=hb.2;omega⟩,bh _,eQ jU ng jU.size⟩
    ·have HY:=Q (KO hT)
     rw[T] at Qq;have ZJ:=sZ hT;clear T hT zF;generalize textOf (fM s)=abm at Qq ZJ;go_wp2_with fail;refine Qq.mono ?_;rintro e w5 ⟨rfl,ng⟩;clear Qq;go_wp2;go_ret2;rw[HY.out.1,HY.out.2];exact⟨none,0,rfl,In.nil,bh _,eQ jU ng jU.size⟩
   ·have HY:=Q (Ax T)
    have zF:(gK (fM s) == 0)=false:=beq_eq_false_iff_ne.2 T;clear vz;generalize textOf (fM s)=abm at Qq;generalize gK (fM s)=R at Qq T zF;go_wp2_with fail;refine Qq.mono ?_;rintro e w5 ⟨rfl,ng⟩;clear Qq;go_wp2;go_ret2;rw[HY.out.1,HY.out.2];exact⟨none,0,rfl,In.nil,bh _,eQ jU ng jU.size⟩
end Go.Proofs.YtpeepcmdehhbgaaGreatDoor.abn
