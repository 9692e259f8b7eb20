/- Lstrs, Ltext, Lparse, Dclone. -/
import Derived.Shelf.Strings.SplitCore
import Derived.Shelf.Strings.Search3
import Derived.Shelf.Strings.Count
import Derived.Shelf.Strings.OnBuilder
import Derived.Test.YtmijcbfgfkeodaaGreatDoorHz04
set_option linter.all false
set_option maxRecDepth 100000
section
namespace Go.Proofs.YtmijcbfgfkeodaaGreatDoor.L
open Go.Shelf
def joinL_ren:Go.Shelf.Ren:=⟨fun|156=>241|165=>301|166=>302|169=>303|240=>344|241=>345|276=>359|277=>360|n=>n,fun|31=>83|9=>9|3=>3|4=>4|0=>0|20=>20|72=>371|76=>375|70=>369|37=>65|75=>374|127=>408|164=>422|5=>5|80=>174|n=>n,fun|n=>n⟩
theorem joinL:Go.Proofs.Lays.n156 Tryz.prog joinL_ren:={
 mixed:=by kernel_rfl
 f156:=Tryz.func241.trans (congrArg some (by kernel_rfl))
 f165:=Tryz.func301.trans (congrArg some (by kernel_rfl))
 f166:=Tryz.func302.trans (congrArg some (by kernel_rfl))
 f169:=Tryz.func303.trans (congrArg some (by kernel_rfl))
 f240:=Tryz.func344.trans (congrArg some (by kernel_rfl))
 f241:=Tryz.func345.trans (congrArg some (by kernel_rfl))
 f276:=Tryz.func359.trans (congrArg some (by kernel_rfl))
 f277:=Tryz.func360.trans (congrArg some (by kernel_rfl))
 t0:=Tryz.underlying0
 a0:=Tryz.isAgg0
 z0:=Tryz.sizeOf0
 v0:=Tryz.zeroValue0
 t3:=Tryz.underlying3
 a3:=Tryz.isAgg3
 z3:=Tryz.sizeOf3
 v3:=Tryz.zeroValue3
 t4:=Tryz.underlying4
 a4:=Tryz.isAgg4
 z4:=Tryz.sizeOf4
 v4:=Tryz.zeroValue4
 t9:=Tryz.underlying9
 a9:=Tryz.isAgg9
 z9:=Tryz.sizeOf9
 v9:=Tryz.zeroValue9
 t20:=Tryz.underlying20
 a20:=Tryz.isAgg20
 z20:=Tryz.sizeOf20
 v20:=Tryz.zeroValue20
 t31:=Tryz.underlying83
 a31:=Tryz.isAgg83
 z31:=Tryz.sizeOf83
 v31:=Tryz.zeroValue83
 t37:=Tryz.underlying65
 a37:=Tryz.isAgg65
 z37:=Tryz.sizeOf65
 v37:=Tryz.zeroValue65
 t70:=Tryz.underlying369
 a70:=Tryz.isAgg369
 z70:=Tryz.sizeOf369
 v70:=Tryz.zeroValue369
 t72:=Tryz.underlying371
 a72:=Tryz.isAgg371
 z72:=Tryz.sizeOf371
 v72:=Tryz.zeroValue371
 t75:=Tryz.underlying374
 a75:=Tryz.isAgg374
 z75:=Tryz.sizeOf374
 v75:=Tryz.zeroValue374
 t76:=Tryz.underlying375
 a76:=Tryz.isAgg375
 z76:=Tryz.sizeOf375
 v76:=Tryz.zeroValue375
 t127:=Tryz.underlying408
 a127:=Tryz.isAgg408
 z127:=Tryz.sizeOf408
 v127:=Tryz.zeroValue408
 t164:=Tryz.underlying422
 a164:=Tryz.isAgg422
 z164:=Tryz.sizeOf422
 v164:=Tryz.zeroValue422 }
def genSplitL_ren:Go.Shelf.Ren:=⟨fun|221=>237|268=>293|138=>294|143=>295|195=>336|197=>337|218=>338|219=>296|260=>354|217=>339|225=>340|224=>341|267=>342|266=>355|314=>356|n=>n,fun|9=>9|3=>3|31=>83|4=>4|0=>0|105=>404|21=>21|5=>5|46=>86|119=>427|139=>430|138=>429|146=>418|51=>85|n=>n,fun|1=>0|3=>1|4=>2|n=>n⟩
theorem genSplitL:Go.Proofs.Lays.n221 Tryz.prog genSplitL_ren:={
 mixed:=by kernel_rfl
 f138:=Tryz.func294.trans (congrArg some (by kernel_rfl))
 f143:=Tryz.func295.trans (congrArg some (by kernel_rfl))
 f195:=Tryz.func336.trans (congrArg some (by kernel_rfl))
 f197:=Tryz.func337.trans (congrArg some (by kernel_rfl))
 f217:=Tryz.func339.trans (congrArg some (by kernel_rfl))
 f218:=Tryz.func338.trans (congrArg some (by kernel_rfl))
 f219:=Tryz.func296.trans (congrArg some (by kernel_rfl))
 f221:=Tryz.func237.trans (congrArg some (by kernel_rfl))
 f224:=Tryz.func341.trans (congrArg some (by kernel_rfl))
 f225:=Tryz.func340.trans (congrArg some (by kernel_rfl))
 f260:=Tryz.func354.trans (congrArg some (by kernel_rfl))
 f266:=Tryz.func355.trans (congrArg some (by kernel_rfl))
 f267:=Tryz.func342.trans (congrArg some (by kernel_rfl))
 f268:=Tryz.func293.trans (congrArg some (by kernel_rfl))
 f314:=Tryz.func356.trans (congrArg some (by kernel_rfl))
 t0:=Tryz.underlying0
 a0:=Tryz.isAgg0
 z0:=Tryz.sizeOf0
 v0:=Tryz.zeroValue0
 t3:=Tryz.underlying3
 a3:=Tryz.isAgg3
 z3:=Tryz.sizeOf3
 v3:=Tryz.zeroValue3
 t4:=Tryz.underlying4
 a4:=Tryz.isAgg4
 z4:=Tryz.sizeOf4
 v4:=Tryz.zeroValue4
 t5:=Tryz.underlying5
 a5:=Tryz.isAgg5
 z5:=Tryz.sizeOf5
 v5:=Tryz.zeroValue5
 t9:=Tryz.underlying9
 a9:=Tryz.isAgg9
 z9:=Tryz.sizeOf9
 v9:=Tryz.zeroValue9
 t21:=Tryz.underlying21
 a21:=Tryz.isAgg21
 z21:=Tryz.sizeOf21
 v21:=Tryz.zeroValue21
 t31:=Tryz.underlying83
 a31:=Tryz.isAgg83
 z31:=Tryz.sizeOf83
 v31:=Tryz.zeroValue83
 t46:=Tryz.underlying86
 a46:=Tryz.isAgg86
 z46:=Tryz.sizeOf86
 v46:=Tryz.zeroValue86
 t51:=Tryz.underlying85
 a51:=Tryz.isAgg85
 z51:=Tryz.sizeOf85
 v51:=Tryz.zeroValue85
 t105:=Tryz.underlying404
 a105:=Tryz.isAgg404
 z105:=Tryz.sizeOf404
 v105:=Tryz.zeroValue404
 t119:=Tryz.underlying427
 a119:=Tryz.isAgg427
 z119:=Tryz.sizeOf427
 t138:=Tryz.underlying429
 a138:=Tryz.isAgg429
 z138:=Tryz.sizeOf429
 v138:=Tryz.zeroValue429
 t139:=Tryz.underlying430
 a139:=Tryz.isAgg430
 z139:=Tryz.sizeOf430
 v139:=Tryz.zeroValue430
 t146:=Tryz.underlying418
 a146:=Tryz.isAgg418
 z146:=Tryz.sizeOf418
 v146:=Tryz.zeroValue418
 g1:=by kernel_rfl
 g3:=by kernel_rfl
 g4:=by kernel_rfl }
def cutL_ren:Go.Shelf.Ren:=⟨fun|145=>190|220=>238|219=>296|217=>339|225=>340|224=>341|267=>342|266=>355|314=>356|n=>n,fun|9=>9|4=>4|59=>287|3=>3|5=>5|46=>86|146=>418|51=>85|n=>n,fun|1=>0|n=>n⟩
theorem cutL:Go.Proofs.Lays.n145 Tryz.prog cutL_ren:={
 mixed:=by kernel_rfl
 f145:=Tryz.func190.trans (congrArg some (by kernel_rfl))
 f217:=Tryz.func339.trans (congrArg some (by kernel_rfl))
 f219:=Tryz.func296.trans (congrArg some (by kernel_rfl))
 f220:=Tryz.func238.trans (congrArg some (by kernel_rfl))
 f224:=Tryz.func341.trans (congrArg some (by kernel_rfl))
 f225:=Tryz.func340.trans (congrArg some (by kernel_rfl))
 f266:=Tryz.func355.trans (congrArg some (by kernel_rfl))
 f267:=Tryz.func342.trans (congrArg some (by kernel_rfl))
 f314:=Tryz.func356.trans (congrArg some (by kernel_rfl))
 t3:=Tryz.underlying3
 a3:=Tryz.isAgg3
 z3:=Tryz.sizeOf3
 v3:=Tryz.zeroValue3
 t4:=Tryz.underlying4
 a4:=Tryz.isAgg4
 z4:=Tryz.sizeOf4
 v4:=Tryz.zeroValue4
 t5:=Tryz.underlying5
 a5:=Tryz.isAgg5
 z5:=Tryz.sizeOf5
 v5:=Tryz.zeroValue5
 t9:=Tryz.underlying9
 a9:=Tryz.isAgg9
 z9:=Tryz.sizeOf9
 v9:=Tryz.zeroValue9
 t46:=Tryz.underlying86
 a46:=Tryz.isAgg86
 z46:=Tryz.sizeOf86
 v46:=Tryz.zeroValue86
 t51:=Tryz.underlying85
 a51:=Tryz.isAgg85
 z51:=Tryz.sizeOf85
 v51:=Tryz.zeroValue85
 t59:=Tryz.underlying287
 a59:=Tryz.isAgg287
 z59:=Tryz.sizeOf287
 v59:=Tryz.zeroValue287
 t146:=Tryz.underlying418
 a146:=Tryz.isAgg418
 z146:=Tryz.sizeOf418
 v146:=Tryz.zeroValue418
 g1:=by kernel_rfl }
theorem joinX:Go.Proofs.Builder.Extra Tryz.prog joinL_ren:={
 sizeBuilder:=by kernel_rfl
 liesBuilder:=by kernel_rfl
 t5:=Tryz.underlying5
 a5:=Tryz.isAgg5
 z5:=Tryz.sizeOf5
 v5:=Tryz.zeroValue5
 infoByte:=by kernel_rfl
 cellsByte:=by kernel_rfl
 sizeByte:=by kernel_rfl
 neB5:=by decide }
end Go.Proofs.YtmijcbfgfkeodaaGreatDoor.L
namespace Go.Proofs.YtmijcbfgfkeodaaGreatDoor.L
open Go.RowKit Go.Hop Go.Shelf
theorem Join_any (w:World) (V:Nat→Prop) (A:Option Addr) (n c:Nat) (xs:List ByteArray) (sep:ByteArray) (h:In w V 1 A n (xs.map Value.string)) (hn:n≤c) (hn2:n≤140737488355328) (hlen:(Lib.join (xs.map (·.data.toList)) sep.data.toList).length≤140737488355328) :
 Calls Tryz.prog 241 #[.slice A n c,.string sep] w fun e w'=>e=.returned (.string (mk (Lib.join (xs.map (·.data.toList)) sep.data.toList)))∧Grow w w':=by
 have hl:xs.length=n:=by have:=h.1;simpa using this
 rcases Nat.eq_zero_or_pos n with h0|h0
 ·subst h0
  obtain rfl:xs=[]:=List.eq_nil_of_length_eq_zero hl
  refine (Go.Proofs.Any.strings_Join_none joinL joinX A c sep w).mono ?_
  rintro e w' ⟨he,rfl⟩
  exact⟨he,Grow.refl _⟩
 ·obtain⟨ad,rfl,_,hb,hc⟩:=h.2 h0
  obtain⟨bk,o,m⟩:=ad
  have hm:m=none:=by
   have h1:=hc 0 (.string xs[0]) (by rw[List.getElem?_map,List.getElem?_eq_getElem (by omega)];rfl)
   cases m with
   | none=>rfl
   | some m=>
     simp only[World.cell?,Addr.add] at h1
     split at h1<;>simp at h1
  subst hm
  subst hl
  exact Go.Proofs.Any.strings_Join joinL joinX bk o c xs sep w (fun j x hx=>by
   have:=hc j (.string x) (by rw[List.getElem?_map,hx];rfl)
   rwa [Addr.add_lit] at this) hb hn2 hn hlen
theorem splitB_mk (c:UInt8) (s:ByteArray):(Lib.splitB ⟨#[c]⟩ 0 (Lib.countB s ⟨#[c]⟩) s)=(cutAll c s.data.toList).map mk:=by
 have h:=Lib.splitB_data ⟨#[c]⟩ 0 (Lib.countB s ⟨#[c]⟩) s
 have h2:Lib.splitK [c] 0 (Lib.countB s ⟨#[c]⟩) s.data.toList=cutAll c s.data.toList:=split_is c _ _ (Nat.le_refl _)
 have h3:(Lib.splitB ⟨#[c]⟩ 0 (Lib.countB s ⟨#[c]⟩) s).map (·.data.toList)=cutAll c s.data.toList:=h.trans h2
 rw[←h3,List.map_map]
 conv=>lhs;rw[←List.map_id (Lib.splitB ⟨#[c]⟩ 0 (Lib.countB s ⟨#[c]⟩) s)]
 exact List.map_congr_left fun x _=>rfl
theorem cutAll_len (c:UInt8):∀ s:List UInt8,(cutAll c s).length≤s.length+1
 | []=>by simp[cutAll]
 | b :: r=>by
   have ih:=cutAll_len c r
   unfold cutAll
   split
   ·simp only[List.length_cons];omega
   ·split
    ·simp
    ·rename_i p ps e
     rw[e] at ih
     simp only[List.length_cons] at ih ⊢
     omega
theorem Split_any (w:World) (s:ByteArray) (c:UInt8) (hs:s.size<4294967281) :
 Calls Tryz.prog 189 #[.string s,.string ⟨#[c]⟩] w fun e w'=>∃ A,e=.returned (.slice A (cutAll c s.data.toList).length (cutAll c s.data.toList).length)∧In w' (New w w') 1 A (cutAll c s.data.toList).length (((cutAll c s.data.toList).map mk).map Value.string)∧Grow w w':=by
 have h1:1≤(⟨#[c]⟩:ByteArray).size:=by show 1≤1;omega
 have hle:=Lib.countB_le ⟨#[c]⟩ h1 s.size s (Nat.le_refl _)
 have hlen:=Lib.splitB_all ⟨#[c]⟩ h1 0 _ s rfl
 have hcount:∀ w,Calls Tryz.prog 294 #[.string s,.string ⟨#[c]⟩] w fun e w'=>e=.returned (.int .i64 (Lib.countB s ⟨#[c]⟩))∧w'=w:=fun w=>by
  refine (Go.Proofs.Any.strings_Count_one (P:=Tryz.prog) (ρ:=genSplitL_ren) { genSplitL with } s c w).mono fun e w' ⟨he,hw⟩=>⟨?_,hw⟩
  rw[he]
  show _=Ending.returned (Value.int .i64 ((Lib.count s.data.toList [c]:Nat):Int))
  rw[Lib.count_one]
  rfl
 have hcon:=Go.Proofs.Any.strings_genSplit_core genSplitL (by kernel_rfl) s ⟨#[c]⟩ 0 (-1) (Lib.countB s ⟨#[c]⟩+1) w hs h1 (Nat.zero_le _)
  (fun x cs hx=>by
   refine (Go.Proofs.Any.strings_Index_one (P:=Tryz.prog) (ρ:=genSplitL_ren) { genSplitL with } x c _).mono fun e w' ⟨he,hw⟩=>⟨?_,hw⟩
   rw[he]
   show _=Ending.returned (Value.int .i64 (Lib.index x.data.toList [c]))
   rw[Lib.index_one]) (hcount w) (by decide) (by decide) (by rw[if_pos (by decide)];omega)
 rw[Nat.add_sub_cancel,hlen] at hcon
 have e2:Lib.cellsOf (Lib.splitB ⟨#[c]⟩ 0 (Lib.countB s ⟨#[c]⟩) s) (Lib.countB s ⟨#[c]⟩+1)=((Lib.splitB ⟨#[c]⟩ 0 (Lib.countB s ⟨#[c]⟩) s).map Value.string).toArray:=by rw[←hlen];exact Lib.cellsOf_full _
 rw[e2,splitB_mk] at hcon
 have hl2:Lib.countB s ⟨#[c]⟩+1=(cutAll c s.data.toList).length:=by rw[←hlen,splitB_mk,List.length_map]
 rw[hl2] at hcon
 change Calls Tryz.prog 237 #[.string s,.string ⟨#[c]⟩,.int .i64 0,.int .i64 (-1)] w _ at hcon
 have hI:∀ w1,w1=w.alloc (.cells (((cutAll c s.data.toList).map mk).map Value.string).toArray 9)→In w1 (New w w1) 1 (some ⟨w.heap.size,0,none⟩) (cutAll c s.data.toList).length (((cutAll c s.data.toList).map mk).map Value.string)∧Grow w w1:=fun w1 hw=>by
  have hg:Grow w w1:=by rw[hw];exact (Below.refl _ _).alloc (Nat.le_refl _) _
  refine⟨⟨by simp,fun hn=>⟨_,rfl,⟨Nat.le_refl _,by rw[hw];simp⟩,by rw[hw];simp,fun j u hu=>?_⟩⟩,hg⟩
  rw[Addr.add_lit,Nat.zero_add,hw]
  exact ((Blk.made w 9 _).cell j).trans (by simpa using hu)
 generalize (cutAll c s.data.toList).length=k at hcon hI ⊢
 generalize ((cutAll c s.data.toList).map mk).map Value.string=xs at hcon hI ⊢
 clear hlen hle hcount e2 hl2 h1
 go_enter Tryz.func189,Tryz.ntmps189
 go_wp2_with fail
 refine hcon.mono ?_
 rintro e w1 ⟨rfl,hw⟩
 have h2:=Lib.hid (hI w1 hw)
 clear hcon hI hw
 go_wp2_with fail
 go_ret
 exact⟨_,rfl,h2.out.1,h2.out.2⟩
theorem liteCut_any (w:World) (s:ByteArray) (c:UInt8) (hs:s.size<4294967281) :
 Calls Tryz.prog 238 #[.string s,.string ⟨#[c]⟩] w fun e w'=>e=.returned (.tuple #[.string (mk (Lib.cut s.data.toList [c]).1),.string (mk (Lib.cut s.data.toList [c]).2.1),.bool (Lib.cut s.data.toList [c]).2.2])∧∃ n,w'=w.drewN n:=by
 have hix1:∀ w,Calls Tryz.prog 296 #[.string s,.string ⟨#[c]⟩] w fun e w'=>e=.returned (.int .i64 (Lib.indexB s ⟨#[c]⟩))∧w'=w:=fun w=>by
  refine (Go.Proofs.Any.stringslite_Index_one (P:=Tryz.prog) (ρ:=cutL_ren) { cutL with } s c w).mono fun e w' ⟨he,hw⟩=>⟨?_,hw⟩
  rw[he]
  show _=Ending.returned (Value.int .i64 (Lib.index s.data.toList [c]))
  rw[Lib.index_one]
 rcases Lib.indexB_cases s ⟨#[c]⟩ with hix|⟨i,hix,hroom⟩
 ·obtain⟨e1,e2,e3⟩:=Lib.cutB_miss s ⟨#[c]⟩ hix
  change mk (Lib.cut s.data.toList [c]).1=_ at e1
  change mk (Lib.cut s.data.toList [c]).2.1=_ at e2
  change (Lib.cut s.data.toList [c]).2.2=_ at e3
  rw[e1,e2,e3]
  rw[hix] at hix1
  clear e1 e2 e3
  go_enter Tryz.func238,Tryz.ntmps238
  go_wp2_with fail
  refine (hix1 _).mono ?_
  rintro e w' ⟨rfl,rfl⟩
  go_wp2_with fail
  go_ret3
  exact⟨rfl,0,rfl⟩
 ·obtain⟨e1,e2,e3⟩:=Lib.cutB_hit s ⟨#[c]⟩ i hix
  change mk (Lib.cut s.data.toList [c]).1=_ at e1
  change mk (Lib.cut s.data.toList [c]).2.1=_ at e2
  change (Lib.cut s.data.toList [c]).2.2=_ at e3
  rw[e1,e2,e3]
  rw[hix] at hix1
  have hsz:(⟨#[c]⟩:ByteArray).size=1:=rfl
  rw[hsz] at hroom ⊢
  have c1:(0:Int)≤↑i:=by omega
  have c2:(↑i:Int)≤↑s.size:=by omega
  have c3:(0:Int)≤↑i+1:=by omega
  have c4:(↑i+1:Int)≤↑s.size:=by omega
  clear e1 e2 e3
  go_enter Tryz.func238,Tryz.ntmps238
  go_wp2_with fail
  refine (hix1 _).mono ?_
  rintro e w' ⟨rfl,rfl⟩
  clear hix1
  go_wp2_with fail
  go_region
  all_goals go_wp2
  all_goals go_ret3
  all_goals exact⟨rfl,1,rfl⟩
theorem Cut_any (w:World) (s:ByteArray) (c:UInt8) (hs:s.size<4294967281) :
 Calls Tryz.prog 190 #[.string s,.string ⟨#[c]⟩] w fun e w'=>e=.returned (.tuple #[.string (mk (Lib.cut s.data.toList [c]).1),.string (mk (Lib.cut s.data.toList [c]).2.1),.bool (Lib.cut s.data.toList [c]).2.2])∧Grow w w':=by
 have hcon:=liteCut_any w s c hs
 generalize mk (Lib.cut s.data.toList [c]).1=x at hcon ⊢
 generalize mk (Lib.cut s.data.toList [c]).2.1=y at hcon ⊢
 generalize (Lib.cut s.data.toList [c]).2.2=z at hcon ⊢
 go_enter Tryz.func190,Tryz.ntmps190
 go_wp2_with fail
 refine hcon.mono ?_
 rintro e w' ⟨rfl,n,rfl⟩
 clear hcon
 have hg:Grow w (w.drewN n):=by
  have:∀ n,Grow w (w.drewN n):=fun n=>by
   induction n with
   | zero=>exact Grow.refl _
   | succ n ih=>exact ih.drew
  exact this n
 generalize w.drewN n=w1 at hg ⊢
 go_wp2_with fail
 go_ret3
 exact⟨rfl,hg⟩
end Go.Proofs.YtmijcbfgfkeodaaGreatDoor.L
end
section
namespace Go.Proofs.YtmijcbfgfkeodaaGreatDoor.L
open Go.RowKit Go.Hop
def eqB:ByteArray:={ data:=#[61] }
def commaB:ByteArray:={ data:=#[44] }
def partB (d:Lb):ByteArray:=d.1++eqB++d.2
theorem app_data (a b:ByteArray):(a++b).data.toList=a.data.toList++b.data.toList:=by
 rw[ByteArray.data_append,Array.toList_append]
theorem partB_data (d:Lb):(partB d).data.toList=partL d:=by
 unfold partB partL
 rw[app_data,app_data,List.append_assoc]
 rfl
theorem ok_small {d:Lb} (h:okL d=true):d.1.size≤32∧d.2.size≤32:=by
 unfold okL at h
 simp only[Bool.and_eq_true] at h
 exact⟨(name_small h.1).2,(name_small h.2).2⟩
theorem text_zero {l:List Lb} (h:rightE l=0):textOf l=txt (can l):=by unfold textOf;rw[if_pos h]
theorem text_not {l:List Lb} (h:rightE l≠0):textOf l={ data:=#[] }:=by unfold textOf;rw[if_neg h];rfl
set_option maxHeartbeats 1000000 in
theorem Text_any (w:World) (V:Nat→Prop) (A:Option Addr) (n c:Nat) (l:List Lb) (h:In w V 2 A n (lcells l)) (hl:∀ d∈l,d.1.size≤maxLen∧d.2.size≤maxLen) (hn:n≤9223372036854775807) :
 Calls Tryz.prog 191 #[.slice A n c] w fun e w'=>e=.returned (.tuple #[.string (textOf l),.int .i64 (rightE l)])∧Grow w w':=by
 have hri:=Right_any w V A n c l h hl hn
 have hll:=LIn.len h
 by_cases hR:rightE l=0
 ·obtain⟨h8,hf⟩:=right_zero hR
  obtain⟨hok,hnd,_⟩:=(fineB_is l).1 hf
  rw[hR] at hri ⊢
  rw[text_zero hR]
  have hn8:n≤8:=by omega
  clear hf
  obtain⟨T,HT⟩:∃ T:ByteArray,Hid (T=txt (can l)):=⟨_,rfl⟩
  rw[←HT.out]
  go_enter Tryz.func191,Tryz.ntmps191
  go_wp2_with fail
  refine hri.mono ?_
  rintro e w1 ⟨rfl,hg1⟩
  clear hri
  have hso:=sorted_any w1 V A n c l (h.grow hg1) (by omega)
  go_wp2_with fail
  refine hso.mono ?_
  rintro e w2 ⟨A1,q,rfl,hq,hI,hg2⟩
  clear hso h
  have hg02:=below_trans hg1 hg2 hg1.size
  have hqc:q=can l:=hq.can_ hnd
  have hqo:∀ d∈q,okL d=true:=fun d hd=>hok d (hq.perm.mem_iff.1 hd)
  have hql:q.length=n:=by rw[hq.len];exact hll
  have HQC:=Lib.hid hqc
  have HQL:=Lib.hid hql
  have HLL:=Lib.hid hll
  clear hqc hql hll hR hnd
  go_wp2_with fail
  go_loopw [5,16] (fun o i wr=>∃ k:Nat,k≤n∧i=.int .i64 (k:Int)∧Own wr (New w2 wr) 9 1 o k (((q.take k).map partB).map Value.string)∧Grow w2 wr) (fun _ i _=>n-(intOf i).toNat)
  case atStart=>exact⟨0,by omega,rfl,Own.nil,Grow.refl _⟩
  case round=>
   obtain⟨i,hin,rfl,hO,hgr⟩:=hrel
   obtain⟨Ab,cb,rfl,hIb,hnb,hmb⟩:=hO.in_
   have hsr:=hgr.size
   by_cases hi:i<n
   ·have hit:decide ((i:Int)<(n:Int))=true:=decide_eq_true (by omega)
    obtain⟨ad,hqi,rfl,e0,e1⟩:=lab_at (hI.grow hgr) hi
    have ce0:=e0 wr (Grow.refl _)
    have ce1:=e1 wr (Grow.refl _)
    have hdo:=hqo _ (List.getElem_mem hqi)
    have htk:Hid (((q.take (i+1)).map partB).map Value.string=((q.take i).map partB).map Value.string++[partB q[i]].map Value.string):=Lib.hid (by
     rw[List.take_succ_eq_append_getElem hqi,List.map_append,List.map_append];rfl)
    generalize q[i]=d at ce0 ce1 hdo htk
    have hds:=ok_small hdo
    have hin2:¬ n≤i:=by omega
    clear e0 e1 hIb
    go_wp2_with (at_builtin;refine stay ?_)
    refine stay_out ?_
    have hga:Grow wr ((wr.alloc (.cells #[.string d.1,.string d.2] 90)).alloc (.cells #[.string (d.1++{ data:=#[61] }++d.2)] 9)):=((Below.refl _ _).alloc (Nat.le_refl _) _).alloc (by simp) _
    refine wpList_own (V:=New w2 wr) strE _ rfl (.tmp 20) (.tmp 27) rfl (.slice Ab i cb) i (((q.take i).map partB).map Value.string) rfl (hO.grow (fun b hb=>hb.2) hga) (wr.heap.size+1+1) (some ⟨wr.heap.size+1,0,none⟩) 1 1 ([partB d].map Value.string) rfl (reads_laid (wr.alloc (.cells #[.string d.1,.string d.2] 90)) #[.string (d.1++{ data:=#[61] }++d.2)] 9 (0,0) (n:=1) (size:=1) rfl (wr.heap.size+1) (by simp)) (scells_one _) (by omega) ?_
    intro v5 w5 hO5 hj5
    have hs5:=hj5.size
    simp at hs5
    rw[←htk.out] at hO5
    have hO6:Own w5 (New w2 w5) 9 1 v5 (i+1) (((q.take (i+1)).map partB).map Value.string):=by
     refine hO5.mono fun b hb=>?_
     rcases hb with hb|hb
     ·exact⟨hb.1,by have:=hb.2;omega⟩
     ·have h6:=hb.1
      simp at h6
      exact⟨by omega,hb.2⟩
    have hg6:Grow w2 w5:=Below.trans (below_trans hgr hga hsr) (hj5.below (B:=w2.heap.size) (fun b hb=>hb.1) (by simp;omega))
    clear hO5 hj5 hO hga ce0 ce1
    go_wp2_with fail
    go_roundw
    case rel=>exact⟨i+1,by omega,by go_num,hO6,hg6⟩
    case measure=>simp[intOf];omega
   ·obtain rfl:n=i:=by omega
    have hit:decide ((n:Int)<(n:Int))=false:=decide_eq_false (by omega)
    have hqt:q.take n=q:=List.take_of_length_le (by have:=HQL.out;omega)
    rw[hqt] at hIb
    have htl:=txt_len q hqo
    have hqn:=HQL.out
    have e:(q.map partB).map (·.data.toList)=q.map partL:=by
     rw[List.map_map]
     exact List.map_congr_left fun d _=>partB_data d
    have hjo:=Join_any wr _ Ab n cb (q.map partB) commaB hIb hnb (by omega) (by rw[e];show (txtL q).length≤_;omega)
    rw[e] at hjo
    have hT:mk (Lib.join (q.map partL) commaB.data.toList)=T:=by rw[HT.out,←HQC.out];rfl
    rw[hT] at hjo
    clear e hqt htl hqn hO hIb hT
    have hgw:=below_trans hg02 hgr hg02.size
    go_wp2_with fail
    refine hjo.mono ?_
    rintro e w8 ⟨rfl,hg8⟩
    clear hjo
    go_wp2_with fail
    go_ret2
    exact⟨rfl,below_trans hgw hg8 hgw.size⟩
 ·rw[text_not hR]
  have hR2:(rightE l == 0)=false:=beq_eq_false_iff_ne.2 hR
  generalize rightE l=R at hri hR hR2 ⊢
  go_enter Tryz.func191,Tryz.ntmps191
  go_wp2_with fail
  refine hri.mono ?_
  rintro e w1 ⟨rfl,hg1⟩
  clear hri
  go_wp2_with fail
  go_ret2
  exact⟨rfl,hg1⟩
theorem piece_small (c:UInt8):∀ (s:List UInt8),∀ p∈cutAll c s,p.length≤s.length
 | [],p,h=>by
   rw[cutAll,List.mem_singleton] at h
   rw[h];exact Nat.le_refl _
 | b :: r,p,h=>by
   have ih:=piece_small c r
   unfold cutAll at h
   split at h
   ·rcases List.mem_cons.1 h with rfl|h
    ·exact Nat.zero_le _
    ·have:=ih p h;rw[List.length_cons];omega
   ·split at h
    ·rw[List.mem_singleton.1 h];simp
    ·rename_i q qs e
     rcases List.mem_cons.1 h with rfl|h
     ·have:=ih q (by rw[e];exact List.mem_cons_self)
      rw[List.length_cons,List.length_cons];omega
     ·have:=ih p (by rw[e];exact List.mem_cons_of_mem _ h)
      rw[List.length_cons];omega
theorem labelOf_small (p:List UInt8):(labelOf p).1.size≤p.length∧(labelOf p).2.size≤p.length:=by
 have e:∀ l:List UInt8,(mk l).size=l.length:=fun l=>by show l.toArray.size=_;rw[List.size_toArray]
 unfold labelOf
 rw[e,e]
 unfold Lib.cut
 split
 ·exact⟨by rw[List.length_take];omega,by rw[List.length_drop];omega⟩
 ·exact⟨Nat.le_refl _,Nat.zero_le _⟩
theorem data_len (s:ByteArray):s.data.toList.length=s.size:=by rw[Array.length_toList];rfl
theorem labels_small {s:ByteArray} (hs:s.size≤1000000):∀ d∈labelsOf s,d.1.size≤maxLen∧d.2.size≤maxLen:=fun d hd=>by
 obtain⟨p,hp,rfl⟩:=List.mem_map.1 hd
 have h1:=piece_small 44 _ p hp
 have h2:=labelOf_small p
 rw[data_len] at h1
 unfold maxLen
 omega
theorem parse_no1 {s:ByteArray} (h:rightE (labelsOf s)≠0):parseE s=12∧parseL s=[]:=by
 have:parseOk s=false:=by unfold parseOk;rw[decide_eq_false h,Bool.false_and]
 unfold parseE parseL;rw[this];exact⟨rfl,rfl⟩
theorem parse_no2 {s:ByteArray} (h:textOf (labelsOf s)≠s):parseE s=12∧parseL s=[]:=by
 by_cases h0:rightE (labelsOf s)=0
 ·rw[text_zero h0] at h
  have:parseOk s=false:=by unfold parseOk;rw[decide_eq_false h,Bool.and_false]
  unfold parseE parseL;rw[this];exact⟨rfl,rfl⟩
 ·exact parse_no1 h0
theorem parse_yes {s:ByteArray} (h0:rightE (labelsOf s)=0) (h:textOf (labelsOf s)=s):parseE s=0∧parseL s=labelsOf s:=by
 rw[text_zero h0] at h
 have:parseOk s=true:=by unfold parseOk;rw[decide_eq_true h0,decide_eq_true h];rfl
 unfold parseE parseL;rw[this];exact⟨rfl,rfl⟩
set_option maxHeartbeats 1000000 in
theorem Parse_any (w:World) (s:ByteArray) (hs:s.size≤1000000) :
 Calls Tryz.prog 111 #[.string s] w fun e w'=>∃ A c,e=.returned (.tuple #[.slice A (parseL s).length c,.int .i64 (parseE s)])∧In w' (New w w') 2 A (parseL s).length (lcells (parseL s))∧(parseL s).length≤c∧Grow w w':=by
 have hsp:=Split_any w s 44 (by omega)
 obtain⟨P,HP⟩:∃ P,Hid (P=cutAll 44 s.data.toList):=⟨_,rfl⟩
 have HL:Hid (labelsOf s=P.map labelOf):=Lib.hid (by rw[HP.out];rfl)
 have hPl:P.length≤s.size+1:=by rw[HP.out,←data_len];exact cutAll_len 44 _
 have hps:∀ p∈P,p.length≤s.size:=fun p hp=>by
  have:=piece_small 44 s.data.toList p (by rw[←HP.out];exact hp)
  rwa [data_len] at this
 rw[←HP.out] at hsp
 obtain⟨K,HK⟩:∃ K:Nat,Hid (K=P.length):=⟨_,rfl⟩
 rw[←HK.out] at hsp hPl
 go_enter Tryz.func111,Tryz.ntmps111
 go_wp2_with fail
 refine hsp.mono ?_
 rintro e w1 ⟨A,rfl,hI,hg1⟩
 clear hsp
 go_wp2_with fail
 go_loopw [4,15] (fun o i wr=>∃ k:Nat,k≤K∧i=.int .i64 (k:Int)∧Own wr (New w1 wr) 90 2 o k (lcells ((P.take k).map labelOf))∧Grow w1 wr) (fun _ i _=>K-(intOf i).toNat)
 case atStart=>exact⟨0,by omega,rfl,Own.nil,Grow.refl _⟩
 case round=>
  obtain⟨i,hiK,rfl,hO,hgr⟩:=hrel
  obtain⟨Ab,cb,rfl,hIb,hnb,hmb⟩:=hO.in_
  have hsr:=hgr.size
  by_cases hi:i<K
  ·have hit:decide ((i:Int)<(K:Int))=true:=decide_eq_true (by omega)
   have hI':In wr (New w w1) 1 A K ((P.map mk).map Value.string):=hI.grow hgr
   obtain⟨ad,hqi,rfl,e0⟩:=str_at hI' hi
   have ce0:=e0 wr (Grow.refl _)
   rw[List.getElem_map] at ce0
   have hqP:i<P.length:=by simpa using hqi
   have hpm:=hps _ (List.getElem_mem hqP)
   have htk:Hid (lcells ((P.take (i+1)).map labelOf)=lcells ((P.take i).map labelOf)++lcells [labelOf P[i]]):=Lib.hid (by
    rw[List.take_succ_eq_append_getElem hqP,List.map_append]
    unfold lcells
    rw[List.flatMap_append];rfl)
   generalize P[i]=p at ce0 hpm htk
   have hcu:=Cut_any wr (mk p) 61 (by show p.toArray.size<_;rw[List.size_toArray];omega)
   rw[mk_data] at hcu
   have hlo:Hid (labelOf p=(mk (Lib.cut p [61]).1,mk (Lib.cut p [61]).2.1)):=Lib.hid rfl
   generalize mk (Lib.cut p [61]).1=x at hcu hlo
   generalize mk (Lib.cut p [61]).2.1=y at hcu hlo
   generalize (Lib.cut p [61]).2.2=z at hcu
   have hin2:¬ K≤i:=by omega
   clear e0 hI' hIb
   go_wp2_with fail
   refine hcu.mono ?_
   rintro e w3 ⟨rfl,hg3⟩
   clear hcu ce0
   have hs3:=hg3.size
   have hga:Grow w3 (w3.alloc (.cells #[.string x,.string y] 90)):=(Below.refl _ _).alloc (Nat.le_refl _) _
   have hO3:=hO.grow (fun b hb=>hb.2) hg3
   go_wp2_with (at_builtin;refine stay ?_)
   refine stay_out ?_
   refine wpList_own (V:=New w1 wr) labelE _ rfl (.tmp 25) (.tmp 29) rfl (.slice Ab i cb) i (lcells ((P.take i).map labelOf)) rfl (hO3.grow (fun b hb=>by have:=hb.2;omega) hga) (w3.heap.size+1) (some ⟨w3.heap.size,0,none⟩) 1 1 (lcells [labelOf p]) rfl (by rw[hlo.out];exact reads_laid w3 #[.string x,.string y] 90 (0,0) (n:=1) (size:=2) rfl w3.heap.size rfl) (lcells_one _) (by omega) ?_
   intro v5 w5 hO5 hj5
   have hs5:=hj5.size
   simp at hs5
   rw[←htk.out] at hO5
   have hO6:Own w5 (New w1 w5) 90 2 v5 (i+1) (lcells ((P.take (i+1)).map labelOf)):=by
    refine hO5.mono fun b hb=>?_
    rcases hb with hb|hb
    ·exact⟨hb.1,by have:=hb.2;omega⟩
    ·have h6:=hb.1
     simp at h6
     exact⟨by omega,hb.2⟩
   have hg6:Grow w1 w5:=Below.trans (below_trans (below_trans hgr hg3 hsr) hga (by omega)) (hj5.below (B:=w1.heap.size) (fun b hb=>hb.1) (by simp;omega))
   clear hO5 hj5 hO hO3 hga
   go_wp2_with fail
   go_roundw
   case rel=>exact⟨i+1,by omega,by go_num,hO6,hg6⟩
   case measure=>simp[intOf];omega
  ·obtain rfl:K=i:=by omega
   have hit:decide ((K:Int)<(K:Int))=false:=decide_eq_false (by omega)
   have hPt:(P.take K).map labelOf=labelsOf s:=by rw[HL.out,List.take_of_length_le (by have:=HK.out;omega)]
   rw[hPt] at hIb
   have hls:=labels_small hs
   have htx:=Text_any wr _ Ab K cb (labelsOf s) hIb hls (by omega)
   have hKl:Hid ((labelsOf s).length=K):=Lib.hid (LIn.len hIb)
   have hgw:=below_trans hg1 hgr hg1.size
   have hs1:=hg1.size
   clear hPt hO hls
   by_cases hR:rightE (labelsOf s)=0
   ·have hRb:(rightE (labelsOf s) == 0)=true:=by rw[hR];rfl
    by_cases hT:textOf (labelsOf s)=s
    ·have HY:=Lib.hid (parse_yes hR hT)
     rw[hR,hT] at htx
     clear hR hT hRb
     go_wp2_with fail
     refine htx.mono ?_
     rintro e w5 ⟨rfl,hg5⟩
     clear htx
     go_wp2_with (go_at_call 192;refine (clip_lab _ _ _ _ hnb).mono ?_;rintro e w' ⟨rfl,rfl⟩)
     go_ret2
     have hs5:=hg5.size
     rw[HY.out.1,HY.out.2,hKl.out]
     exact⟨Ab,K,rfl,(hIb.grow hg5).mono fun b hb=>⟨by have:=hb.1;omega,by have:=hb.2;omega⟩,Nat.le_refl _,below_trans hgw hg5 hgw.size⟩
    ·have HY:=Lib.hid (parse_no2 hT)
     rw[hR] at htx
     have hTb:=str_eqb hT
     clear hR hT hRb
     generalize textOf (labelsOf s)=T at htx hTb
     go_wp2_with fail
     refine htx.mono ?_
     rintro e w5 ⟨rfl,hg5⟩
     clear htx
     go_wp2_with fail
     go_ret2
     rw[HY.out.1,HY.out.2]
     exact⟨none,0,rfl,In.nil,Nat.le_refl _,below_trans hgw hg5 hgw.size⟩
   ·have HY:=Lib.hid (parse_no1 hR)
    have hRb:(rightE (labelsOf s) == 0)=false:=beq_eq_false_iff_ne.2 hR
    clear hIb
    generalize textOf (labelsOf s)=T at htx
    generalize rightE (labelsOf s)=R at htx hR hRb
    go_wp2_with fail
    refine htx.mono ?_
    rintro e w5 ⟨rfl,hg5⟩
    clear htx
    go_wp2_with fail
    go_ret2
    rw[HY.out.1,HY.out.2]
    exact⟨none,0,rfl,In.nil,Nat.le_refl _,below_trans hgw hg5 hgw.size⟩
end Go.Proofs.YtmijcbfgfkeodaaGreatDoor.L
end
section
namespace Go.Proofs.YtmijcbfgfkeodaaGreatDoor
open Go.RowKit Go.Hop
theorem clone_any (w:World) (V:Nat→Prop) (A:Option Addr) (n c:Nat) (l:List Dl) (h:DIn w V A n l) (hn:n≤1048576) :
 Calls Tryz.prog 231 #[.slice A n c] w fun e w'=>∃ A' c',e=.returned (.slice A' n c')∧DIn w' (New w w') A' n l∧n≤c'∧c'≤maxLen∧Grow w w':=by
 have hnil:=fun (w':World)=>Lib.run_eql_slice_nil (P:=Tryz.prog) w' 30 29 A n c 0 0 Tryz.underlying30
 cases A with
 | none=>
   have hn0:n=0:=by
    rcases Nat.eq_zero_or_pos n with h0|h0
    ·exact h0
    ·obtain⟨_,e,_⟩:=h.2 h0;cases e
   subst hn0
   obtain rfl:l=[]:=List.eq_nil_of_length_eq_zero h.len
   go_enter Tryz.func231,Tryz.ntmps231
   go_wp2_with fail
   go_ret
   exact⟨_,_,rfl,In.nil,Nat.le_refl _,Nat.zero_le _,Grow.refl _⟩
 | some ad=>
   go_enter Tryz.func231,Tryz.ntmps231
   go_wp2_with (at_builtin;refine stay ?_)
   refine stay_out ?_
   refine wpList_own (V:=fun b=>b=w.heap.size) deltaE _ rfl (.tmp 5) (.tmp 6) rfl (.slice (some ⟨w.heap.size,0,none⟩) 0 0) 0 [] rfl (made_own w _ _) w.heap.size (some ad) n c (dcells l) rfl (Reads.alloc (In.reads h) (Nat.le_refl _) _) (dcells_one l) (by omega) ?_
   intro v1 w1 hO1 hj1
   simp only[Nat.zero_add,List.nil_append] at hO1
   obtain⟨hO2,hg1⟩:=own_new hO1 hj1
   obtain⟨A2,c2,rfl,hI,hnc,hm⟩:=hO2.in_
   go_wp2_with fail
   go_ret
   exact⟨A2,c2,rfl,hI,hnc,hm,hg1⟩
theorem clip_any (w:World) (A:Option Addr) (n c:Nat) (hn:n≤c) :
 Calls Tryz.prog 137 #[.slice A n c] w fun e w'=>e=.returned (.slice A n n)∧w=w':=by
 go_enter Tryz.func137,Tryz.ntmps137
 go_wp2_with fail
 go_ret
 exact⟨rfl,rfl⟩
end Go.Proofs.YtmijcbfgfkeodaaGreatDoor
end
