/- Wda, St2, Ca1. -/
import Derived.Test.YtmijcbfgfkeodaaGreatDoorGz33
set_option linter.all false
set_option maxRecDepth 100000
section
namespace Go.Proofs.YtmijcbfgfkeodaaGreatDoor
open Go.RowKit Go.Hop Go.Proofs.YtmijcbfgfkeodaaGreatDoor.V
theorem woDo_any (w:World) (W:Nat) (q:WoP) (L L2:List Ne.Lb) (RT AT RT2 AT2:Thing) (hRT:Framed RT) (hAT:Framed AT) (hRT2:Framed RT2) (hAT2:Framed AT2) (k a b n:Int) (s:ByteArray) (why node code i0 i1 i2 x bag:Int)
 (hdo:∀ (w:World) (V:Nat→Prop),Many (woL W q L RT AT) w V→(∀ b,V b→b<w.heap.size)→Calls Tryz.prog 116 #[.pointer (some ⟨W,0,none⟩),.agg #[.int .i64 k,.int .i64 a,.int .i64 b,.int .i64 n,.string s]] w fun e w'=>e=.returned (.agg #[.int .i64 why,.int .i64 node,.int .i64 code,.int .i64 i0,.int .i64 i1,.int .i64 i2,.int .u64 x,.int .i64 bag])∧Many (woL W q L2 RT2 AT2) w' (Ext V w w')∧Just V w w')
 (V:Nat→Prop) (hM:Many (woL W q L RT AT) w V) (hV:∀ b,V b→b<w.heap.size) :
 Calls Tryz.prog 44 #[.pointer (some ⟨W,0,none⟩),.agg #[.int .i64 k,.int .i64 a,.int .i64 b,.int .i64 n,.string s]] w fun e w'=>e=.returned (.agg #[.int .i64 why,.int .i64 node,.int .i64 code,.int .i64 i0,.int .i64 i1,.int .i64 i2,.int .u64 x,.int .i64 (L2.length:Int)])∧Many (woL W q L2 RT2 AT2) w' (Ext V w w')∧Just V w w':=by
 have hS0:=Solo.begin_ hM hV
 have hF0:=woL_framed W q L (RT) (AT) hRT hAT
 have g1:=grow_alloc w (.cells #[.int .i64 k,.int .i64 a,.int .i64 b,.int .i64 n,.string s] 98)
 have b1:=Blk.made w 98 #[.int .i64 k,.int .i64 a,.int .i64 b,.int .i64 n,.string s]
 have g2r:=grow_alloc (w.alloc (.cells #[.int .i64 k,.int .i64 a,.int .i64 b,.int .i64 n,.string s] 98)) (.cells #[.int .i64 0,.int .i64 0,.int .i64 0,.int .i64 0,.int .i64 0,.int .i64 0,.int .u64 0,.int .i64 0] 100)
 have rY:=b1.grow g2r
 have rW:=(hS0.blk 0 rfl).grow (g1.trans g2r)
 unfold wdC at rW
 have c0:=rY.cell 0
 have c1:=rY.cell 1
 have c2:=rY.cell 2
 have c3:=rY.cell 3
 have c4:=rY.cell 4
 obtain⟨y,HY⟩:∃ y:Nat,Hid (y=w.heap.size):=⟨_,rfl⟩
 obtain⟨wa,HA_⟩:∃ wa:World,Hid (wa=w.alloc (.cells #[.int .i64 k,.int .i64 a,.int .i64 b,.int .i64 n,.string s] 98)):=⟨_,rfl⟩
 have hz0:wa.heap.size=y+1:=by rw[HA_.out,HY.out];simp
 rw[←HA_.out] at g1 b1
 rw[←HY.out] at b1
 have g2:=grow_alloc wa (.cells #[.int .i64 0,.int .i64 0,.int .i64 0,.int .i64 0,.int .i64 0,.int .i64 0,.int .u64 0,.int .i64 0] 100)
 have b2:=Blk.made wa 100 #[.int .i64 0,.int .i64 0,.int .i64 0,.int .i64 0,.int .i64 0,.int .i64 0,.int .u64 0,.int .i64 0]
 obtain⟨z,HZ⟩:∃ z:Nat,Hid (z=y+1):=⟨_,rfl⟩
 obtain⟨wb,HB_⟩:∃ wb:World,Hid (wb=wa.alloc (.cells #[.int .i64 0,.int .i64 0,.int .i64 0,.int .i64 0,.int .i64 0,.int .i64 0,.int .u64 0,.int .i64 0] 100)):=⟨_,rfl⟩
 rw[←HB_.out] at g2 b2
 rw[hz0,←HZ.out] at b2
 have hSa:=hS0.join hF0 g1 (R:=Cell y 98 #[.int .i64 k,.int .i64 a,.int .i64 b,.int .i64 n,.string s]) (U:=fun b=>b=y) ⟨rfl,b1⟩ (fun b hb=>by have h8:b=y:=hb;have:=HY.out;have:=b1.lt;omega)
 have hFa:=hF0.cons (Cell.framed y 98 #[.int .i64 k,.int .i64 a,.int .i64 b,.int .i64 n,.string s])
 have hSb:=hSa.join hFa g2 (R:=Cell z 100 #[.int .i64 0,.int .i64 0,.int .i64 0,.int .i64 0,.int .i64 0,.int .i64 0,.int .u64 0,.int .i64 0]) (U:=fun b=>b=z) ⟨rfl,b2⟩ (fun b hb=>by have h8:b=z:=hb;have:=HZ.out;have:=b2.lt;omega)
 have hSb:Solo (Lic V w) (Many (woL W q L (RT) (AT)++[Cell z 100 #[.int .i64 0,.int .i64 0,.int .i64 0,.int .i64 0,.int .i64 0,.int .i64 0,.int .u64 0,.int .i64 0],Cell y 98 #[.int .i64 k,.int .i64 a,.int .i64 b,.int .i64 n,.string s]])) wb:=hSb.perm (List.perm_append_comm (l₁:=[Cell z 100 #[.int .i64 0,.int .i64 0,.int .i64 0,.int .i64 0,.int .i64 0,.int .i64 0,.int .u64 0,.int .i64 0],Cell y 98 #[.int .i64 k,.int .i64 a,.int .i64 b,.int .i64 n,.string s]]))
 have hFb:=allFramed_app hF0 ((AllFramed.nil.cons (Cell.framed y 98 #[.int .i64 k,.int .i64 a,.int .i64 b,.int .i64 n,.string s])).cons (Cell.framed z 100 #[.int .i64 0,.int .i64 0,.int .i64 0,.int .i64 0,.int .i64 0,.int .i64 0,.int .u64 0,.int .i64 0]))
 have Jb:Just (Lic V w) w wb:=(Just.of_grow g1).trans (Just.of_grow g2)
 have hyz:¬ (fun b=>b=z) y:=fun e=>by have e2:y=z:=e;have:=HZ.out;omega
 clear b1 b2 g1 g2 hz0 hSa g2r
 have hc:=Solo.at_ 0 rfl (((AllFramed.nil.cons (Cell.framed y 98 #[.int .i64 k,.int .i64 a,.int .i64 b,.int .i64 n,.string s])).cons (Cell.framed z 100 #[.int .i64 0,.int .i64 0,.int .i64 0,.int .i64 0,.int .i64 0,.int .i64 0,.int .u64 0,.int .i64 0])).cons (Many.framed _ hF0)) (Solo.unflat (l:=woL W q L RT AT) hSb) (fun U hU hUl=>hdo wb U hU hUl)
 go_enter Tryz.func44,Tryz.ntmps44
 go_wp2_with fail
 rw[←HA_.out,←HY.out,←HB_.out,←HZ.out]
 clear c0 c1 c2 c3 c4
 refine hc.mono ?_
 rintro e w2 ⟨rfl,hj2,hS2⟩
 have hS2:Solo (Lic V w) (Many (woL W q L2 RT2 AT2++[Cell z 100 #[.int .i64 0,.int .i64 0,.int .i64 0,.int .i64 0,.int .i64 0,.int .i64 0,.int .u64 0,.int .i64 0],Cell y 98 #[.int .i64 k,.int .i64 a,.int .i64 b,.int .i64 n,.string s]])) w2:=Solo.flat (l:=woL W q L2 RT2 AT2) hS2
 have hF2:=allFramed_app (woL_framed W q L2 RT2 AT2 hRT2 hAT2) ((AllFramed.nil.cons (Cell.framed y 98 #[.int .i64 k,.int .i64 a,.int .i64 b,.int .i64 n,.string s])).cons (Cell.framed z 100 #[.int .i64 0,.int .i64 0,.int .i64 0,.int .i64 0,.int .i64 0,.int .i64 0,.int .u64 0,.int .i64 0]))
 have J2:=Jb.trans hj2
 go_wp2_with (refine wpList_new rfl (run_alcV _ _ _ rfl) ?_;intro xx w3 hB3 hg3 hz3 hs3;refine stay ?_)
 refine stay_out ?_
 go_wp2_with (refine wpList_fill rfl 100 _ _ rfl _ rfl [.int .i64 why,.int .i64 node,.int .i64 code,.int .i64 i0,.int .i64 i1,.int .i64 i2,.int .u64 x,.int .i64 bag] rfl hB3 rfl rfl (by kernel_rfl) ?_;intro w4 hX4 hj4 hs4;refine stay ?_)
 refine stay_out ?_
 have hg4:Grow w2 w4:=Below.trans hg3 (hj4.below (B:=w2.heap.size) (fun b hb=>by have e2:b=xx:=hb;omega) (by omega))
 have hS4:=hS2.join hF2 hg4 (R:=Cell xx 100 #[.int .i64 why,.int .i64 node,.int .i64 code,.int .i64 i0,.int .i64 i1,.int .i64 i2,.int .u64 x,.int .i64 bag]) (U:=fun b=>b=xx) ⟨rfl,hX4⟩ (fun b hb=>by have e2:b=xx:=hb;omega)
 have hF4:=hF2.cons (Cell.framed xx 100 #[.int .i64 why,.int .i64 node,.int .i64 code,.int .i64 i0,.int .i64 i1,.int .i64 i2,.int .u64 x,.int .i64 bag])
 have J4:=J2.trans (Just.of_grow hg4)
 have hW4:=hS4.blk 1 rfl
 unfold wdC at hW4
 have c3:=hW4.cell 3
 obtain⟨U5,hU5,_⟩:=hS4.see 5 rfl
 have hLn:=neLen_any w4 q.g 2 L2 (fun _=>false) U5 hU5
 go_wp2_with fail
 refine hLn.mono ?_
 rintro e w5 ⟨rfl,rfl⟩
 clear c3
 have k7:=(hS4.blk 0 rfl).cell 7
 go_wp2_with (refine wpList_putS rfl _ _ _ rfl hS4 hF4 J4 0 rfl rfl (.int .i64 (L2.length:Int)) rfl (Nat.le_of_ble_eq_true rfl) rfl (by kernel_rfl) ?_;intro w6 hS6 J6;refine stay ?_)
 refine stay_out ?_
 clear k7
 have hS6:Solo (Lic V w) (Many (Cell xx 100 #[.int .i64 why,.int .i64 node,.int .i64 code,.int .i64 i0,.int .i64 i1,.int .i64 i2,.int .u64 x,.int .i64 (L2.length:Int)] :: (woL W q L2 RT2 AT2++[Cell z 100 #[.int .i64 0,.int .i64 0,.int .i64 0,.int .i64 0,.int .i64 0,.int .i64 0,.int .u64 0,.int .i64 0],Cell y 98 #[.int .i64 k,.int .i64 a,.int .i64 b,.int .i64 n,.string s]]))) w6:=hS6
 have hF6:=hF2.cons (Cell.framed xx 100 #[.int .i64 why,.int .i64 node,.int .i64 code,.int .i64 i0,.int .i64 i1,.int .i64 i2,.int .u64 x,.int .i64 (L2.length:Int)])
 have hx6:=hS6.blk 0 rfl
 have hz6:=hS6.blk 8 rfl
 go_wp2_with (first|(refine wpList_load_blk rfl 100 _ rfl _ rfl (hx6) Tryz.underlying100 (by kernel_rfl) ?_)|(refine wpList_fill rfl 100 _ _ rfl _ rfl [.int .i64 why,.int .i64 node,.int .i64 code,.int .i64 i0,.int .i64 i1,.int .i64 i2,.int .u64 x,.int .i64 (L2.length:Int)] rfl hz6 rfl rfl (by kernel_rfl) ?_;intro w7 hZ7 hj7 hs7;refine stay ?_))
 refine stay_out ?_
 have hS7:=hS6.turned 8 rfl hF6 hj7 hZ7
 have J7:=J6.trans (hj7.imp fun b hb=>hb▸(hS6.lics 8 rfl).1)
 go_wp2_with fail
 refine bodyPost_ret (results_blk rfl _ z rfl hZ7 Tryz.underlying100 (by kernel_rfl)) rfl ?_
 have hS10:Solo (Lic V w) (Many (woL W q L2 RT2 AT2)) w7:=(Solo.perm (List.perm_append_comm (l₁:=woL W q L2 RT2 AT2) (l₂:=[Cell z 100 #[.int .i64 why,.int .i64 node,.int .i64 code,.int .i64 i0,.int .i64 i1,.int .i64 i2,.int .u64 x,.int .i64 (L2.length:Int)],Cell y 98 #[.int .i64 k,.int .i64 a,.int .i64 b,.int .i64 n,.string s]])) (Solo.drop1 hS7)).drop1.drop1
 obtain⟨r1,r2⟩:=Solo.done hS10 J7 hV
 exact⟨rfl,r1,r2⟩
theorem iClone_1 (w:World) (A:Option Addr) (c:Nat) (D:Nat→Prop) (xs:List Value) (hxs:∀ u∈xs,u.oneCell'=true) (hI:In w D 3 A 1 xs) :
 Calls Tryz.prog 123 #[.slice A 1 c] w fun e w'=>(∃ A' c',e=.returned (.slice A' 1 c'))∧Grow w w':=by
 have hnil:=fun (w':World)=>Lib.run_eql_slice_nil (P:=Tryz.prog) w' 41 26 A 1 c 0 0 Tryz.underlying41
 obtain⟨ad,rfl,_⟩:=hI.2 (by omega)
 go_enter Tryz.func123,Tryz.ntmps123
 go_wp2_with (at_builtin;refine stay ?_)
 refine stay_out ?_
 refine wpList_own (V:=fun b=>b=w.heap.size) idE _ rfl (.tmp 5) (.tmp 6) rfl (.slice (some ⟨w.heap.size,0,none⟩) 0 0) 0 [] rfl (made_own w 26 3) w.heap.size (some ad) 1 c xs rfl (Reads.alloc hI.reads (Nat.le_refl _) _) hxs (by decide) ?_
 intro v1 w1 hO1 hj1
 simp only[Nat.zero_add,List.nil_append] at hO1
 obtain⟨hO1,hg1⟩:=own_new hO1 hj1
 obtain⟨A1,c1,rfl,_⟩:=hO1.in_
 go_wp2_with fail
 go_ret
 exact⟨⟨_,_,rfl⟩,hg1⟩
def IdNew (B:Nat) (xs:List Value) (u:Value) (w:World):Prop:=∃ A,u=.slice A 1 1∧In w (fun b=>B≤b∧b<w.heap.size) 3 A 1 xs
theorem idNew_lasting (B:Nat) (xs:List Value):Lasting (IdNew B xs):=fun u w w' ⟨A,h1,h2⟩ hg=>⟨A,h1,(h2.grow hg).mono fun b hb=>⟨hb.1,Nat.lt_of_lt_of_le hb.2 hg.size⟩⟩
theorem Union_1 (w:World) (A:Option Addr) (c:Nat) (D:Nat→Prop) (xs:List Value) (hxs:∀ u∈xs,u.oneCell'=true) (hI:In w D 3 A 1 xs) (hc:1≤c) :
 Calls Tryz.prog 60 #[.slice none 0 0,.slice A 1 c] w fun e w'=>∃ u,e=.returned u∧Grow w w'∧IdNew w.heap.size xs u w':=by
 have ga:=grow_alloc w (.cells #[.slice none 0 0,.slice A 1 c] 41)
 have hC:=iConcat_1 (w.alloc (.cells #[.slice none 0 0,.slice A 1 c] 41)) w.heap.size A c (Blk.made w _ _) D xs hxs (hI.grow ga)
 go_enter Tryz.func60,Tryz.ntmps60
 go_wp2_with fail
 refine hC.mono ?_
 rintro e w1 ⟨v1,rfl,hR,hg1⟩
 obtain⟨A1,c1,rfl,hI1,hc1,_⟩:=hR.in_
 have hS:=fun fv=>iSort_1 w1 A1 c1 fv
 go_wp2_with fail
 refine (hS _).mono ?_
 rintro e w2 ⟨rfl,rfl⟩
 have hK:=iCompact_1 w1 A1 c1
 go_wp2_with fail
 refine hK.mono ?_
 rintro e w2 ⟨rfl,rfl⟩
 have hP:=iClip_1 w1 A1 c1 hc1
 go_wp2_with fail
 refine hP.mono ?_
 rintro e w2 ⟨rfl,rfl⟩
 go_wp2_with fail
 go_ret
 exact⟨_,rfl,ga.trans hg1,A1,rfl,hI1.mono fun b hb=>⟨Nat.le_trans ga.size hb.1,hb.2⟩⟩
def Sn (s:Nat):Thing:=Cell s 205 #[.slice none 0 0,.slice none 0 0,.slice none 0 0]
def Sk (s:Nat):Thing:=fun w V=>∃ (A:Option Addr) (xs:List Value),(∀ u∈xs,u.oneCell'=true)∧Many [(fun w V=>In w V 3 A 1 xs),Cell s 205 #[.slice A 1 1,.slice none 0 0,.slice none 0 0]] w V
theorem Sn.framed (s:Nat):Framed (Sn s):=Cell.framed _ _ _
theorem inT_framed (A:Option Addr) (xs:List Value):Framed (fun w V=>In w V 3 A 1 xs):=fun _ _ _ h hk=>In.keep h fun b hb _=>hk b hb
theorem stNew_1 (w:World):Calls Tryz.prog 107 #[] w fun e w'=>∃ s,e=.returned (.pointer (some ⟨s,0,none⟩))∧Sn s w' (fun b=>w.heap.size≤b∧b<w'.heap.size)∧Grow w w':=by
 go_enter Tryz.func107,Tryz.ntmps107
 go_wp2_with fail
 go_ret
 exact⟨w.heap.size,rfl,⟨⟨Nat.le_refl _,by simp⟩,Blk.made w _ _⟩,grow_alloc w _⟩
theorem stAcked_k (w:World) (s:Nat) (V:Nat→Prop) (h:Sk s w V):Calls Tryz.prog 47 #[.pointer (some ⟨s,0,none⟩)] w fun e w'=>(∃ A' c',e=.returned (.slice A' 1 c'))∧Grow w w':=by
 obtain⟨A,xs,h0,U1,U2,hI,⟨_,_,hC,_⟩,_⟩:=h
 have c0:=hC.2.cell 0
 have hK:=iClone_1 w A 1 U1 xs h0 hI
 go_enter Tryz.func47,Tryz.ntmps47
 go_wp2_with fail
 refine hK.mono ?_
 rintro e w1 ⟨⟨A',c',rfl⟩,hg⟩
 go_wp2_with fail
 go_ret
 exact⟨⟨_,_,rfl⟩,hg⟩
theorem stAdd_skip (w:World) (s:Value) (k a b n:Int) (t:ByteArray) (hk:k≠2) (why node code i0 i1 i2 x bag:Int):Calls Tryz.prog 115 #[s,.agg #[.int .i64 k,.int .i64 a,.int .i64 b,.int .i64 n,.string t],.agg #[.int .i64 why,.int .i64 node,.int .i64 code,.int .i64 i0,.int .i64 i1,.int .i64 i2,.int .u64 x,.int .i64 bag]] w fun e w'=>e=.returned (.tuple #[])∧Grow w w':=by
 have g1:=grow_alloc w (.cells #[.int .i64 k,.int .i64 a,.int .i64 b,.int .i64 n,.string t] 98)
 have b1:=Blk.made w 98 #[.int .i64 k,.int .i64 a,.int .i64 b,.int .i64 n,.string t]
 have g2:=grow_alloc (w.alloc (.cells #[.int .i64 k,.int .i64 a,.int .i64 b,.int .i64 n,.string t] 98)) (.cells #[.int .i64 why,.int .i64 node,.int .i64 code,.int .i64 i0,.int .i64 i1,.int .i64 i2,.int .u64 x,.int .i64 bag] 100)
 have b2:=Blk.made (w.alloc (.cells #[.int .i64 k,.int .i64 a,.int .i64 b,.int .i64 n,.string t] 98)) 100 #[.int .i64 why,.int .i64 node,.int .i64 code,.int .i64 i0,.int .i64 i1,.int .i64 i2,.int .u64 x,.int .i64 bag]
 have b1:=b1.grow g2
 have c0:=b1.cell 0
 have d1:decide (k=2)=false:=decide_eq_false hk
 go_enter Tryz.func115,Tryz.ntmps115
 go_wp2_with fail
 refine bodyPost_ret (results_none rfl _ _ _) rfl ?_
 exact⟨rfl,g1.trans g2⟩
theorem stAdd_none (w:World) (s:Value) (a b n:Int) (t:ByteArray) (node i0 i1 i2 x bag:Int):Calls Tryz.prog 115 #[s,.agg #[.int .i64 2,.int .i64 a,.int .i64 b,.int .i64 n,.string t],.agg #[.int .i64 0,.int .i64 node,.int .i64 0,.int .i64 i0,.int .i64 i1,.int .i64 i2,.int .u64 x,.int .i64 bag]] w fun e w'=>e=.returned (.tuple #[])∧Grow w w':=by
 have g1:=grow_alloc w (.cells #[.int .i64 2,.int .i64 a,.int .i64 b,.int .i64 n,.string t] 98)
 have b1:=Blk.made w 98 #[.int .i64 2,.int .i64 a,.int .i64 b,.int .i64 n,.string t]
 have g2:=grow_alloc (w.alloc (.cells #[.int .i64 2,.int .i64 a,.int .i64 b,.int .i64 n,.string t] 98)) (.cells #[.int .i64 0,.int .i64 node,.int .i64 0,.int .i64 i0,.int .i64 i1,.int .i64 i2,.int .u64 x,.int .i64 bag] 100)
 have b2:=Blk.made (w.alloc (.cells #[.int .i64 2,.int .i64 a,.int .i64 b,.int .i64 n,.string t] 98)) 100 #[.int .i64 0,.int .i64 node,.int .i64 0,.int .i64 i0,.int .i64 i1,.int .i64 i2,.int .u64 x,.int .i64 bag]
 have b1:=b1.grow g2
 have c0:=b1.cell 0
 have e0:=b2.cell 0
 have e2:=b2.cell 2
 go_enter Tryz.func115,Tryz.ntmps115
 go_wp2_with fail
 go_end0
 exact⟨rfl,g1.trans g2⟩
theorem stAdd_ack (w:World) (s:Nat) (a b n:Int) (t:ByteArray) (node i0 i1 i2 x bag:Int) (V:Nat→Prop) (hS:Sn s w V) (hV:∀ b,V b→b<w.heap.size):Calls Tryz.prog 115 #[.pointer (some ⟨s,0,none⟩),.agg #[.int .i64 2,.int .i64 a,.int .i64 b,.int .i64 n,.string t],.agg #[.int .i64 0,.int .i64 node,.int .i64 1,.int .i64 i0,.int .i64 i1,.int .i64 i2,.int .u64 x,.int .i64 bag]] w fun e w'=>e=.returned (.tuple #[])∧Sk s w' (Ext V w w')∧Just V w w':=by
 have k60:∀ (vs:Array Value) (w:World),(callFunc 60 vs).run Tryz.prog w=.ok (.enter 60 vs) w:=fun vs w=>by go_simp
 have g1:=grow_alloc w (.cells #[.int .i64 2,.int .i64 a,.int .i64 b,.int .i64 n,.string t] 98)
 have b1:=Blk.made w 98 #[.int .i64 2,.int .i64 a,.int .i64 b,.int .i64 n,.string t]
 have g2:=grow_alloc (w.alloc (.cells #[.int .i64 2,.int .i64 a,.int .i64 b,.int .i64 n,.string t] 98)) (.cells #[.int .i64 0,.int .i64 node,.int .i64 1,.int .i64 i0,.int .i64 i1,.int .i64 i2,.int .u64 x,.int .i64 bag] 100)
 have b2:=Blk.made (w.alloc (.cells #[.int .i64 2,.int .i64 a,.int .i64 b,.int .i64 n,.string t] 98)) 100 #[.int .i64 0,.int .i64 node,.int .i64 1,.int .i64 i0,.int .i64 i1,.int .i64 i2,.int .u64 x,.int .i64 bag]
 have b1:=b1.grow g2
 have c0:=b1.cell 0
 have e0:=b2.cell 0
 have e2:=b2.cell 2
 have hS0:Solo (Lic V w) (Many [Sn s]) w:=Solo.begin_ (S:=Many [Sn s]) ⟨V,fun _=>False,hS,trivial,fun _ h=>h,fun _ h=>h.elim,fun _ _ h=>h⟩ hV
 have hF0:AllFramed [Sn s]:=AllFramed.nil.cons (Sn.framed s)
 obtain⟨y,HY⟩:∃ y:Nat,Hid (y=w.heap.size):=⟨_,rfl⟩
 obtain⟨z,HZ⟩:∃ z:Nat,Hid (z=y+1):=⟨_,rfl⟩
 obtain⟨wb,HB_⟩:∃ wb:World,Hid (wb=(w.alloc (.cells #[.int .i64 2,.int .i64 a,.int .i64 b,.int .i64 n,.string t] 98)).alloc (.cells #[.int .i64 0,.int .i64 node,.int .i64 1,.int .i64 i0,.int .i64 i1,.int .i64 i2,.int .u64 x,.int .i64 bag] 100)):=⟨_,rfl⟩
 have hz0:(w.alloc (.cells #[.int .i64 2,.int .i64 a,.int .i64 b,.int .i64 n,.string t] 98)).heap.size=y+1:=by rw[HY.out];simp
 have gb:=g1.trans g2
 rw[hz0,←HZ.out] at b2
 rw[←HB_.out] at gb b2
 have hSb:=hS0.grows hF0 gb
 have hsb:=hSb.blk (x:=s) (t:=205) (cs:=#[.slice none 0 0,.slice none 0 0,.slice none 0 0]) 0 rfl
 go_enter Tryz.func115,Tryz.ntmps115
 go_wp2_with fail
 rw[←HB_.out,←HY.out,←HZ.out]
 clear c0 e0 e2
 refine wp_region_flow 11 56 [(7,.inr (fun _=>IsIn 3 1 [.int .i64 i0,.int .i64 i1,.int .i64 i2])),(8,.inr (fun _=>IdNew wb.heap.size [.int .i64 i0,.int .i64 i1,.int .i64 i2]))] rfl rfl (by kernel_rfl) (by kernel_rfl) (by kernel_rfl) ?_ ?_
 ·intro x hx φ he
  simp only[List.mem_cons,List.not_mem_nil,or_false] at hx
  rcases hx with rfl|rfl<;>cases he
  all_goals first|exact lasts_quiet (lasting_bytes _)|first|exact lasts_quiet (isIn_lasting _ _ _)|exact lasts_quiet (idNew_lasting _ _)
 intro ops' A' K' T hops hA' hK hT
 refine fl_mvN 19 (.pointer (some ⟨s,0,none⟩)) ?_
 refine fl_mvN 20 (.pointer (some ⟨s,0,none⟩)) ?_
 refine fl_op1N 21 (.tmp 20) (.pointer (some ⟨s,0,none⟩)) (.pointer (some ⟨s,0,none⟩)) (fun ρ h1 kk w2 (hg2:Grow _ w2) hb hf=>by go_simp) ?_
 refine fl_op1N 22 (.tmp 21) (.pointer (some ⟨s,0,none⟩)) (.pointer (some ⟨s,0,none⟩)) (fun ρ h1 kk w2 (hg2:Grow _ w2) hb hf=>by go_simp) ?_
 refine fl_op1N 23 (.tmp 22) (.pointer (some ⟨s,0,none⟩)) (.slice none 0 0) (fun ρ h1 kk w2 (hg2:Grow _ w2) hb hf=>by have c:=(hsb.grow hg2).cell 0;go_simp) ?_
 refine fl_op1N 24 (.tmp 5) (.pointer (some ⟨z,0,none⟩)) (.pointer (some ⟨z,3,none⟩)) (fun ρ h1 kk w2 (hg2:Grow _ w2) hb hf=>by go_simp) ?_
 refine fl_op1N 25 (.tmp 24) (.pointer (some ⟨z,3,none⟩)) (.agg #[.int .i64 i0,.int .i64 i1,.int .i64 i2]) (fun ρ h1 kk w2 (hg2:Grow _ w2) hb hf=>by have c3:=(b2.grow hg2).cell 3;have c4:=(b2.grow hg2).cell 4;have c5:=(b2.grow hg2).cell 5;go_simp) ?_
 refine fl_any1 26 (by rfl) (by decide) (wanted_none (by rfl)) (fun _=>IsIn 3 1 [.int .i64 i0,.int .i64 i1,.int .i64 i2]) (by rw[hK.out];rfl) (.tmp 25) (.agg #[.int .i64 i0,.int .i64 i1,.int .i64 i2]) (by rfl) (fun ρ h1 kk w2 (hg2:Grow _ w2) hb hf=>by refine upon_behindAny (φ:=fun _=>IsIn 3 1 [.int .i64 i0,.int .i64 i1,.int .i64 i2]) (by rfl) ?_;exact ident_made rfl h1) (fun v26=>?_)
 refine fl_callAny 27 (by rfl) (by decide) (wanted_none (by rfl)) (fun _=>IdNew wb.heap.size [.int .i64 i0,.int .i64 i1,.int .i64 i2]) (by rw[hK.out];rfl) 60 _ _ (by rfl) [.slice none 0 0,v26] (by rfl) k60 (fun kk w2 (hg2:Grow _ w2) hb hf=>calls_behindAny (φ:=fun _=>IdNew wb.heap.size [.int .i64 i0,.int .i64 i1,.int .i64 i2]) (by rfl) (by exact (by obtain⟨A7,e7,h7⟩:IsIn 3 1 [.int .i64 i0,.int .i64 i1,.int .i64 i2] v26 w2:=(facts_take hf (by rw[hA'.out];kernel_rfl));subst e7;exact (Union_1 w2 A7 1 _ _ (ident_one _ _ _) h7 (by omega)).mono fun e w9 h9=>by obtain⟨u,h1,h2,A8,h3,h4⟩:=h9;exact⟨u,h1,h2,A8,h3,h4.mono fun b hb=>⟨Nat.le_trans hg2.size hb.1,hb.2⟩⟩))) (fun v27=>?_)
 refine fl_op1N 28 (.tmp 19) (.pointer (some ⟨s,0,none⟩)) (.pointer (some ⟨s,0,none⟩)) (fun ρ h1 kk w2 (hg2:Grow _ w2) hb hf=>by go_simp) ?_
 refine fl_op1N 29 (.tmp 28) (.pointer (some ⟨s,0,none⟩)) (.pointer (some ⟨s,0,none⟩)) (fun ρ h1 kk w2 (hg2:Grow _ w2) hb hf=>by go_simp) ?_
 refine fl_end (fun _ _ w2 (hg2:Grow _ w2) _ hfacts=>hT _ _ ?_)
 clear hops hA' hK hT
 simp only[putsL,Act.put,List.setIfInBounds_toArray,List.set_cons_zero,List.set_cons_succ,List.drop_succ_cons,List.drop_zero]
 obtain⟨A9,rfl,hI9⟩:IdNew wb.heap.size [.int .i64 i0,.int .i64 i1,.int .i64 i2] v27 w2:=hfacts.1
 clear hfacts
 have hS2:=hSb.join hF0 hg2 (R:=fun w V=>In w V 3 A9 1 [.int .i64 i0,.int .i64 i1,.int .i64 i2]) (U:=fun b=>wb.heap.size≤b∧b<w2.heap.size) hI9 (fun b hb=>hb)
 have hS2:Solo (Lic V w) (Many [(fun w V=>In w V 3 A9 1 [.int .i64 i0,.int .i64 i1,.int .i64 i2]),Cell s 205 #[.slice none 0 0,.slice none 0 0,.slice none 0 0]]) w2:=hS2
 have hF2:AllFramed [(fun w V=>In w V 3 A9 1 [.int .i64 i0,.int .i64 i1,.int .i64 i2]),Cell s 205 #[.slice none 0 0,.slice none 0 0,.slice none 0 0]]:=hF0.cons (inT_framed _ _)
 have J2:Just (Lic V w) w w2:=Just.of_grow (gb.trans hg2)
 have k0:=(hS2.blk 1 rfl).cell 0
 go_wp2_with (refine wpList_putS rfl _ _ _ rfl hS2 hF2 J2 1 rfl rfl (.slice A9 1 1) rfl (Nat.le_of_ble_eq_true rfl) rfl (by kernel_rfl) ?_;intro w3 hS3 J3;refine stay ?_)
 refine stay_out ?_
 go_wp2_with fail
 go_end0
 obtain⟨r1,r2⟩:=Solo.done hS3 J3 hV
 exact⟨rfl,⟨A9,_,ident_one _ _ _,r1⟩,r2⟩
theorem run_alcA (w:World) (ρ:Operand→Value) (o:Oper) (ho:o.op=.alloc 98):(execOp ρ o).run Tryz.prog w=.ok (.value (.pointer (some ⟨w.heap.size,0,none⟩))) (w.alloc (.cells #[.int .i64 0,.int .i64 0,.int .i64 0,.int .i64 0,.string ⟨#[]⟩] 98)):=by
 obtain⟨dst,op,ty,pos,after,guard⟩:=o
 simp only at ho
 subst ho
 go_simp
theorem drain_0 (w:World) (W:Nat) (q:WoP) (RT AT:Thing) (s:Nat) (V:Nat→Prop) (hM:Many (woL W q [] RT AT) w V) (hV:∀ b,V b→b<w.heap.size):Calls Tryz.prog 122 #[.pointer (some ⟨W,0,none⟩),.pointer (some ⟨s,0,none⟩),.int .i64 100,.int .i64 (-1)] w fun e w'=>e=.returned (.tuple #[.int .i64 0,.pointer none])∧w=w':=by
 have hS:=Solo.begin_ hM hV
 obtain⟨U4,hU4,_⟩:=hS.see 4 rfl
 have hNt:=woNet_any w W q.g q.rs q.ags q.ds (hS.blk 0 rfl)
 have hLn:Calls Tryz.prog 117 #[.pointer (some ⟨q.g,0,none⟩)] w fun e w'=>e=.returned (.int .i64 0)∧w=w':=neLen_any w q.g 2 [] (fun _=>false) U4 hU4
 go_enter Tryz.func122,Tryz.ntmps122
 go_wp2_with fail
 go_loopw [10,11] (fun v n wr=>v=.pointer none∧n=.int .i64 0∧w=wr) (fun _ _ _=>0)
 case atStart=>exact⟨rfl,rfl,rfl⟩
 case round=>
  obtain⟨rfl,rfl,rfl⟩:=hrel
  go_wp2_with fail
  refine hNt.mono ?_
  rintro e w1 ⟨rfl,rfl⟩
  go_wp2_with fail
  refine hLn.mono ?_
  rintro e w1 ⟨rfl,rfl⟩
  go_wp2_with fail
  go_ret2
  exact⟨rfl,rfl⟩
theorem Drain_0 (w:World) (W:Nat) (q:WoP) (RT AT:Thing) (s:Nat) (V:Nat→Prop) (hM:Many (woL W q [] RT AT) w V) (hV:∀ b,V b→b<w.heap.size):Calls Tryz.prog 109 #[.pointer (some ⟨W,0,none⟩),.pointer (some ⟨s,0,none⟩),.int .i64 100] w fun e w'=>e=.returned (.int .i64 0)∧w=w':=by
 have hD:=drain_0 w W q RT AT s V hM hV
 go_enter Tryz.func109,Tryz.ntmps109
 go_wp2_with fail
 refine hD.mono ?_
 rintro e w1 ⟨rfl,rfl⟩
 go_wp2_with fail
 go_ret
 exact⟨rfl,rfl⟩
set_option maxHeartbeats 2000000 in
theorem drain_2 (w:World) (W:Nat) (q:WoP) (s:Nat) (V:Nat→Prop) (hM:Many (woL W q [(1,0,frame (askB eAsk))] (R1 q.r) (A3 q.a)++[Sn s]) w V) (hV:∀ b,V b→b<w.heap.size):Calls Tryz.prog 122 #[.pointer (some ⟨W,0,none⟩),.pointer (some ⟨s,0,none⟩),.int .i64 400,.int .i64 (-1)] w fun e w'=>e=.returned (.tuple #[.int .i64 2,.pointer none])∧Many (woL W q [] Emp Emp++[Sk s]) w' (Ext V w w')∧Just V w w':=by
 have hS0:=Solo.begin_ hM hV
 go_enter Tryz.func122,Tryz.ntmps122
 go_wp2_with fail
 go_loopw [10,11] (fun v n wr=>(v=.pointer none∧n=.int .i64 0∧w=wr)∨(v=.pointer none∧n=.int .i64 1∧Solo (Lic V w) (Many (woL W q [(0,1,frame (ansB (4294967296+1) 1 0))] Emp (A3 q.a)++[Sn s])) wr∧Just (Lic V w) w wr)∨(v=.pointer none∧n=.int .i64 2∧Solo (Lic V w) (Many (woL W q [] Emp Emp++[Sk s])) wr∧Just (Lic V w) w wr)) (fun _ n _=>2-(intOf n).toNat)
 case atStart=>exact .inl ⟨rfl,rfl,rfl⟩
 case round=>
  rcases hrel with ⟨rfl,rfl,rfl⟩|⟨rfl,rfl,hSr,Jr⟩|⟨rfl,rfl,hSr,Jr⟩
  ·have hSr:=hS0
   have Jr:Just (Lic V w) w w:=Just.of_grow (Grow.refl w)
   obtain⟨U4,hU4,_⟩:=hSr.see 4 rfl
   have hNt:=woNet_any w W q.g q.rs q.ags q.ds (hSr.blk 0 rfl)
   have hLn:Calls Tryz.prog 117 #[.pointer (some ⟨q.g,0,none⟩)] w fun e w'=>e=.returned (.int .i64 1)∧w=w':=neLen_any w q.g 2 [(1,0,frame (askB eAsk))] (fun _=>false) U4 hU4
   go_wp2_with fail
   refine hNt.mono ?_
   rintro e w1 ⟨rfl,rfl⟩
   go_wp2_with fail
   refine hLn.mono ?_
   rintro e w1 ⟨rfl,rfl⟩
   go_wp2_with (refine wpList_new rfl (run_alcA _ _ _ rfl) ?_;intro y w1 hB1 hg1 hz1 hs1;refine stay ?_)
   refine stay_out ?_
   go_wp2_with (refine wpList_fill rfl 98 _ _ rfl _ rfl [.int .i64 2,.int .i64 0,.int .i64 0,.int .i64 0,.string ⟨#[]⟩] rfl hB1 rfl rfl (by kernel_rfl) ?_;intro w2 hY2 hj2 hs2;refine stay ?_)
   refine stay_out ?_
   have hg2:Grow w w2:=Below.trans hg1 (hj2.below (B:=w.heap.size) (fun b hb=>by have e2:b=y:=hb;omega) (by omega))
   have hFr:AllFramed (woL W q [(1,0,frame (askB eAsk))] (R1 q.r) (A3 q.a)++[Sn s]):=allFramed_app (woL_framed W q [(1,0,frame (askB eAsk))] (R1 q.r) (A3 q.a) (R1.framed q.r) (A3.framed q.a)) (AllFramed.nil.cons (Sn.framed s))
   have hS2:=hSr.join hFr hg2 (R:=Cell y 98 #[.int .i64 2,.int .i64 0,.int .i64 0,.int .i64 0,.string ⟨#[]⟩]) (U:=fun b=>b=y) ⟨rfl,hY2⟩ (fun b hb=>by have e2:b=y:=hb;omega)
   have hS2:Solo (Lic V w) (Many (woL W q [(1,0,frame (askB eAsk))] (R1 q.r) (A3 q.a)++[Sn s,Cell y 98 #[.int .i64 2,.int .i64 0,.int .i64 0,.int .i64 0,.string ⟨#[]⟩]])) w2:=hS2.perm (List.perm_append_comm (l₁:=[Cell y 98 #[.int .i64 2,.int .i64 0,.int .i64 0,.int .i64 0,.string ⟨#[]⟩]]))
   have J2:=Jr.trans (Just.of_grow hg2)
   have hTl:AllFramed [Sn s,Cell y 98 #[.int .i64 2,.int .i64 0,.int .i64 0,.int .i64 0,.string ⟨#[]⟩]]:=(AllFramed.nil.cons (Cell.framed y 98 #[.int .i64 2,.int .i64 0,.int .i64 0,.int .i64 0,.string ⟨#[]⟩])).cons (Sn.framed s)
   have hDo:=Solo.at_ 0 rfl (hTl.cons (Many.framed _ (woL_framed W q [(1,0,frame (askB eAsk))] (R1 q.r) (A3 q.a) (R1.framed q.r) (A3.framed q.a)))) (Solo.unflat (l:=woL W q [(1,0,frame (askB eAsk))] (R1 q.r) (A3 q.a)) hS2) (fun U hU hUl=>woDo_any w2 W q [(1,0,frame (askB eAsk))] [(0,1,frame (ansB (4294967296+1) 1 0))] (R1 q.r) (A3 q.a) Emp (A3 q.a) (R1.framed q.r) (A3.framed q.a) Emp.framed (A3.framed q.a) 2 0 0 0 ⟨#[]⟩ 0 0 0 0 0 0 0 0 (fun w9 V9 hM9 hV9=>do_ask w9 W q V9 hM9 hV9) U hU hUl)
   have hy2:=hS2.blk 8 rfl
   go_wp2_with (refine wpList_load_blk rfl 98 _ rfl _ rfl (hy2) Tryz.underlying98 (by kernel_rfl) ?_)
   refine hDo.mono ?_
   rintro e w3 ⟨rfl,hj3,hS3⟩
   have hS3:Solo (Lic V w) (Many (woL W q [(0,1,frame (ansB (4294967296+1) 1 0))] Emp (A3 q.a)++[Sn s,Cell y 98 #[.int .i64 2,.int .i64 0,.int .i64 0,.int .i64 0,.string ⟨#[]⟩]])) w3:=Solo.flat (l:=woL W q [(0,1,frame (ansB (4294967296+1) 1 0))] Emp (A3 q.a)) hS3
   have J3:=J2.trans hj3
   go_wp2_with (refine wpList_new rfl (run_alcV _ _ _ rfl) ?_;intro ze w4 hB4 hg4 hz4 hs4;refine stay ?_)
   refine stay_out ?_
   go_wp2_with (refine wpList_fill rfl 100 _ _ rfl _ rfl [.int .i64 0,.int .i64 0,.int .i64 0,.int .i64 0,.int .i64 0,.int .i64 0,.int .u64 0,.int .i64 1] rfl hB4 rfl rfl (by kernel_rfl) ?_;intro w5 hE5 hj5 hs5;refine stay ?_)
   refine stay_out ?_
   have hg5:Grow w3 w5:=Below.trans hg4 (hj5.below (B:=w3.heap.size) (fun b hb=>by have e2:b=ze:=hb;omega) (by omega))
   have hF3:AllFramed (woL W q [(0,1,frame (ansB (4294967296+1) 1 0))] Emp (A3 q.a)++[Sn s,Cell y 98 #[.int .i64 2,.int .i64 0,.int .i64 0,.int .i64 0,.string ⟨#[]⟩]]):=allFramed_app (woL_framed W q [(0,1,frame (ansB (4294967296+1) 1 0))] Emp (A3 q.a) Emp.framed (A3.framed q.a)) hTl
   have hS5:=hS3.join hF3 hg5 (R:=Cell ze 100 #[.int .i64 0,.int .i64 0,.int .i64 0,.int .i64 0,.int .i64 0,.int .i64 0,.int .u64 0,.int .i64 1]) (U:=fun b=>b=ze) ⟨rfl,hE5⟩ (fun b hb=>by have e2:b=ze:=hb;omega)
   have hF5:=hF3.cons (Cell.framed ze 100 #[.int .i64 0,.int .i64 0,.int .i64 0,.int .i64 0,.int .i64 0,.int .i64 0,.int .u64 0,.int .i64 1])
   have J5:=J3.trans (Just.of_grow hg5)
   have hy5:=hS5.blk 9 rfl
   have he5:=hS5.blk 0 rfl
   have hAdd:=stAdd_none w5 (.pointer (some ⟨s,0,none⟩)) 0 0 0 ⟨#[]⟩ 0 0 0 0 0 1
   go_wp2_with (first|(refine wpList_load_blk rfl 98 _ rfl _ rfl (hy5) Tryz.underlying98 (by kernel_rfl) ?_)|(refine wpList_load_blk rfl 100 _ rfl _ rfl (he5) Tryz.underlying100 (by kernel_rfl) ?_))
   refine hAdd.mono ?_
   rintro e w6 ⟨rfl,hg6⟩
   have hS6:=hS5.grows hF5 hg6
   have J6:=J5.trans (Just.of_grow hg6)
   have he6:=hS6.blk 0 rfl
   have e0:=he6.cell 0
   have e2:=he6.cell 2
   have hS7:Solo (Lic V w) (Many (woL W q [(0,1,frame (ansB (4294967296+1) 1 0))] Emp (A3 q.a)++[Sn s])) w6:=(Solo.perm (List.perm_append_comm (l₁:=woL W q [(0,1,frame (ansB (4294967296+1) 1 0))] Emp (A3 q.a)++[Sn s]) (l₂:=[Cell y 98 #[.int .i64 2,.int .i64 0,.int .i64 0,.int .i64 0,.string ⟨#[]⟩]])) hS6.drop1).drop1
   go_wp2_with fail
   go_roundw
   case rel=>exact .inr (.inl ⟨rfl,rfl,hS7,J6⟩)
   case measure=>simp[intOf]
  ·skip
   obtain⟨U4,hU4,_⟩:=hSr.see 4 rfl
   have hNt:=woNet_any wr W q.g q.rs q.ags q.ds (hSr.blk 0 rfl)
   have hLn:Calls Tryz.prog 117 #[.pointer (some ⟨q.g,0,none⟩)] wr fun e w'=>e=.returned (.int .i64 1)∧wr=w':=neLen_any wr q.g 2 [(0,1,frame (ansB (4294967296+1) 1 0))] (fun _=>false) U4 hU4
   go_wp2_with fail
   refine hNt.mono ?_
   rintro e w1 ⟨rfl,rfl⟩
   go_wp2_with fail
   refine hLn.mono ?_
   rintro e w1 ⟨rfl,rfl⟩
   go_wp2_with (refine wpList_new rfl (run_alcA _ _ _ rfl) ?_;intro y w1 hB1 hg1 hz1 hs1;refine stay ?_)
   refine stay_out ?_
   go_wp2_with (refine wpList_fill rfl 98 _ _ rfl _ rfl [.int .i64 2,.int .i64 0,.int .i64 0,.int .i64 0,.string ⟨#[]⟩] rfl hB1 rfl rfl (by kernel_rfl) ?_;intro w2 hY2 hj2 hs2;refine stay ?_)
   refine stay_out ?_
   have hg2:Grow wr w2:=Below.trans hg1 (hj2.below (B:=wr.heap.size) (fun b hb=>by have e2:b=y:=hb;omega) (by omega))
   have hFr:AllFramed (woL W q [(0,1,frame (ansB (4294967296+1) 1 0))] Emp (A3 q.a)++[Sn s]):=allFramed_app (woL_framed W q [(0,1,frame (ansB (4294967296+1) 1 0))] Emp (A3 q.a) Emp.framed (A3.framed q.a)) (AllFramed.nil.cons (Sn.framed s))
   have hS2:=hSr.join hFr hg2 (R:=Cell y 98 #[.int .i64 2,.int .i64 0,.int .i64 0,.int .i64 0,.string ⟨#[]⟩]) (U:=fun b=>b=y) ⟨rfl,hY2⟩ (fun b hb=>by have e2:b=y:=hb;omega)
   have hS2:Solo (Lic V w) (Many (woL W q [(0,1,frame (ansB (4294967296+1) 1 0))] Emp (A3 q.a)++[Sn s,Cell y 98 #[.int .i64 2,.int .i64 0,.int .i64 0,.int .i64 0,.string ⟨#[]⟩]])) w2:=hS2.perm (List.perm_append_comm (l₁:=[Cell y 98 #[.int .i64 2,.int .i64 0,.int .i64 0,.int .i64 0,.string ⟨#[]⟩]]))
   have J2:=Jr.trans (Just.of_grow hg2)
   have hTl:AllFramed [Sn s,Cell y 98 #[.int .i64 2,.int .i64 0,.int .i64 0,.int .i64 0,.string ⟨#[]⟩]]:=(AllFramed.nil.cons (Cell.framed y 98 #[.int .i64 2,.int .i64 0,.int .i64 0,.int .i64 0,.string ⟨#[]⟩])).cons (Sn.framed s)
   have hDo:=Solo.at_ 0 rfl (hTl.cons (Many.framed _ (woL_framed W q [(0,1,frame (ansB (4294967296+1) 1 0))] Emp (A3 q.a) Emp.framed (A3.framed q.a)))) (Solo.unflat (l:=woL W q [(0,1,frame (ansB (4294967296+1) 1 0))] Emp (A3 q.a)) hS2) (fun U hU hUl=>woDo_any w2 W q [(0,1,frame (ansB (4294967296+1) 1 0))] [] Emp (A3 q.a) Emp Emp Emp.framed (A3.framed q.a) Emp.framed Emp.framed 2 0 0 0 ⟨#[]⟩ 0 1 1 ((1:Nat):Int) 0 1 0 0 (fun w V hM hV=>do_answer w W q V hM hV) U hU hUl)
   have hy2:=hS2.blk 8 rfl
   go_wp2_with (refine wpList_load_blk rfl 98 _ rfl _ rfl (hy2) Tryz.underlying98 (by kernel_rfl) ?_)
   refine hDo.mono ?_
   rintro e w3 ⟨rfl,hj3,hS3⟩
   have hS3:Solo (Lic V w) (Many (woL W q [] Emp Emp++[Sn s,Cell y 98 #[.int .i64 2,.int .i64 0,.int .i64 0,.int .i64 0,.string ⟨#[]⟩]])) w3:=Solo.flat (l:=woL W q [] Emp Emp) hS3
   have J3:=J2.trans hj3
   go_wp2_with (refine wpList_new rfl (run_alcV _ _ _ rfl) ?_;intro ze w4 hB4 hg4 hz4 hs4;refine stay ?_)
   refine stay_out ?_
   go_wp2_with (refine wpList_fill rfl 100 _ _ rfl _ rfl [.int .i64 0,.int .i64 1,.int .i64 1,.int .i64 ((1:Nat):Int),.int .i64 0,.int .i64 1,.int .u64 0,.int .i64 0] rfl hB4 rfl rfl (by kernel_rfl) ?_;intro w5 hE5 hj5 hs5;refine stay ?_)
   refine stay_out ?_
   have hg5:Grow w3 w5:=Below.trans hg4 (hj5.below (B:=w3.heap.size) (fun b hb=>by have e2:b=ze:=hb;omega) (by omega))
   have hF3:AllFramed (woL W q [] Emp Emp++[Sn s,Cell y 98 #[.int .i64 2,.int .i64 0,.int .i64 0,.int .i64 0,.string ⟨#[]⟩]]):=allFramed_app (woL_framed W q [] Emp Emp Emp.framed Emp.framed) hTl
   have hS5:=hS3.join hF3 hg5 (R:=Cell ze 100 #[.int .i64 0,.int .i64 1,.int .i64 1,.int .i64 ((1:Nat):Int),.int .i64 0,.int .i64 1,.int .u64 0,.int .i64 0]) (U:=fun b=>b=ze) ⟨rfl,hE5⟩ (fun b hb=>by have e2:b=ze:=hb;omega)
   have hF5:=hF3.cons (Cell.framed ze 100 #[.int .i64 0,.int .i64 1,.int .i64 1,.int .i64 ((1:Nat):Int),.int .i64 0,.int .i64 1,.int .u64 0,.int .i64 0])
   have J5:=J3.trans (Just.of_grow hg5)
   have hy5:=hS5.blk 9 rfl
   have he5:=hS5.blk 0 rfl
   have hAdd:=hS5.at_ 8 rfl hF5 (fun U hU hUl=>stAdd_ack w5 s 0 0 0 ⟨#[]⟩ 1 ((1:Nat):Int) 0 1 0 0 U hU hUl)
   go_wp2_with (first|(refine wpList_load_blk rfl 98 _ rfl _ rfl (hy5) Tryz.underlying98 (by kernel_rfl) ?_)|(refine wpList_load_blk rfl 100 _ rfl _ rfl (he5) Tryz.underlying100 (by kernel_rfl) ?_))
   refine hAdd.mono ?_
   rintro e w6 ⟨rfl,hj6,hS6⟩
   have hS6:Solo (Lic V w) (Many (Cell ze 100 #[.int .i64 0,.int .i64 1,.int .i64 1,.int .i64 ((1:Nat):Int),.int .i64 0,.int .i64 1,.int .u64 0,.int .i64 0] :: (woL W q [] Emp Emp++[Sk s,Cell y 98 #[.int .i64 2,.int .i64 0,.int .i64 0,.int .i64 0,.string ⟨#[]⟩]]))) w6:=hS6
   have J6:=J5.trans hj6
   have he6:=hS6.blk 0 rfl
   have e0:=he6.cell 0
   have e2:=he6.cell 2
   have hS7:Solo (Lic V w) (Many (woL W q [] Emp Emp++[Sk s])) w6:=(Solo.perm (List.perm_append_comm (l₁:=woL W q [] Emp Emp++[Sk s]) (l₂:=[Cell y 98 #[.int .i64 2,.int .i64 0,.int .i64 0,.int .i64 0,.string ⟨#[]⟩]])) hS6.drop1).drop1
   go_wp2_with fail
   go_roundw
   case rel=>exact .inr (.inr ⟨rfl,rfl,hS7,J6⟩)
   case measure=>simp[intOf]
  ·obtain⟨U4,hU4,_⟩:=hSr.see 4 rfl
   have hNt:=woNet_any wr W q.g q.rs q.ags q.ds (hSr.blk 0 rfl)
   have hLn:Calls Tryz.prog 117 #[.pointer (some ⟨q.g,0,none⟩)] wr fun e w'=>e=.returned (.int .i64 0)∧wr=w':=neLen_any wr q.g 2 [] (fun _=>false) U4 hU4
   go_wp2_with fail
   refine hNt.mono ?_
   rintro e w1 ⟨rfl,rfl⟩
   go_wp2_with fail
   refine hLn.mono ?_
   rintro e w1 ⟨rfl,rfl⟩
   go_wp2_with fail
   go_ret2
   obtain⟨r1,r2⟩:=Solo.done hSr Jr hV
   exact⟨rfl,r1,r2⟩
theorem Drain_2 (w:World) (W:Nat) (q:WoP) (s:Nat) (V:Nat→Prop) (hM:Many (woL W q [(1,0,frame (askB eAsk))] (R1 q.r) (A3 q.a)++[Sn s]) w V) (hV:∀ b,V b→b<w.heap.size):Calls Tryz.prog 109 #[.pointer (some ⟨W,0,none⟩),.pointer (some ⟨s,0,none⟩),.int .i64 400] w fun e w'=>e=.returned (.int .i64 2)∧Many (woL W q [] Emp Emp++[Sk s]) w' (Ext V w w')∧Just V w w':=by
 have hD:=drain_2 w W q s V hM hV
 go_enter Tryz.func109,Tryz.ntmps109
 go_wp2_with fail
 refine hD.mono ?_
 rintro e w1 ⟨rfl,r1,r2⟩
 go_wp2_with fail
 go_ret
 exact⟨rfl,r1,r2⟩
end Go.Proofs.YtmijcbfgfkeodaaGreatDoor
end
