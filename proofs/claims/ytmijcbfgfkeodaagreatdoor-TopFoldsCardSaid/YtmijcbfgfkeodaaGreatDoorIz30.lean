/- Ag3, Ag4, Ag5, Dr, Ag7, Ag8. -/
import Derived.Test.YtmijcbfgfkeodaaGreatDoorIz29
set_option linter.all false
set_option maxRecDepth 100000
set_option maxHeartbeats 2000000
open Go.Value renaming int → ae,slice → ai
open Go.IntKind renaming i64 → af,u64 → ah
open Go.Proofs.Tryz renaming prog → au
open List renaming setIfInBounds_toArray → aw,drop_succ_cons → ax,set_cons_zero → ay,set_cons_succ → az,drop_zero → aB,length_append → aD,not_mem_nil → aE,mem_cons → aF,length_cons → aL,nil_append → aR,length_nil → bu
open Nat renaming lt_of_lt_of_le → aA,le_trans → aH,le_of_ble_eq_true → aQ,zero_add → a_
section
namespace Go.Proofs.YtmijcbfgfkeodaaGreatDoor
open Go.RowKit Go.Hop V
theorem sH (s:ByteArray) (n:Int):∀ u∈[Value.string s,ae ah n],u.oneCell'=true:=by simp[Value.oneCell']
theorem lW (w:World) (x d:Nat) (n:Int) (l b:List UInt8) (k:Nat) (u:Value) (hb:bZ b u w) (hn:0≤n∧n≤1099511627776) (h1:b.length≤65536) (h2:l.length+(frame b).length≤1048576) :
 Turns au 71 #[((x:Nat):Value),u] (fun e=>e=.returned (ae af 0)) (cU x d n l k) (cU x d (n+1) (l++frame b) k) w:=by
 obtain⟨A,m,c,rfl,hbb,_⟩:=hb
 have hA:=nM w x d n l k A m c b hbb hn
 have hf:fits l (frame b)=true:=yj h2
 have hz:tX l b=0:=by unfold tX;rw[if_pos h1];exact nk.2 hf
 have hr:wI l b=l++frame b:=by unfold wI Cz;rw[if_pos h1,if_pos hf]
 rw[hz,if_pos rfl,hr] at hA
 exact hA
def ny (s:ByteArray) (x:Nat):List UInt8:=eI 2 []++lX [(s,x)]
theorem ut {s:ByteArray} {x:Nat} (h:Small (s,x)):(ny s x).length≤1030:=by
 have h1:=iL 2 [] ak (by simp)
 have h2:=mg [(s,x)] fun d hd=>by rw[List.mem_singleton.1 hd];exact h
 unfold ny
 rw[aD]
 simp only[bu,aL] at h1 h2
 omega
theorem Al (w:World) (p:uq) (node dH now tag last:Int) (asks:List (Int×Value)) (tr:List ((Int×Int×Int)×Value)) (n:Int) (bs:List UInt8) (k:Nat) (ep:Int) (l0:List Q.Ab) (k0:Int) (cu:Value) (s:ByteArray) (x:Nat) (hp:L.fH s=0) (hs:Small (s,x)) (hx:1≤x) (hn:0≤n∧n≤1099511627776) (hbs:bs.length≤1000000) (V:Nat→Prop) (hM:Many (iW p (cP p.st p.z ep (ai none 0 0) [] l0 k0 cu) node dH now tag last asks tr n bs k) w V) (hV:∀ b,V b→b<w.heap.size) :
 Calls au 24 #[.pointer (some ⟨p.a,0,none⟩),.string s,ae ah (x:Int)] w fun e w'=>e=.returned (ae af 0)∧(∃ sl,Many (iW p (cP p.st p.z ep sl [(s,x)] l0 k0 cu) node dH now tag last asks tr (n+1) (bs++frame (ny s x)) k) w' (Ext V w w'))∧Just V w w':=by
 have R4:∀ (vs:Array Value) (w:World),(callFunc 70 vs).run au w=.ok (.enter 70 vs) w:=fun vs w=>by go_simp
 have R5:∀ (vs:Array Value) (w:World),(callFunc 72 vs).run au w=.ok (.enter 72 vs) w:=fun vs w=>by go_simp
 have Pv:∀ (vs:Array Value) (w:World),(callFunc 71 vs).run au w=.ok (.enter 71 vs) w:=fun vs w=>by go_simp
 have hsl:=ut hs
 have hfl:=eS (ny s x) al
 have hsz:=hs.1
 have hS0:=Solo.begin_ hM hV
 have hS0:Solo (cB V w) (Many (eR p.st p.z ep (ai none 0 0) [] l0 k0 cu++[Cell p.a 143 (ib p node dH now tag last),cJ k_ p.bK asks,cJ mL p.bT tr,cU p.x p.d n bs k])) w:=Solo.flat hS0
 have dX:=bW (cV p.st p.z ep (ai none 0 0) [] l0 k0 cu) (cE p cW cW.framed node dH now tag last asks tr n bs k).tail
 have hga:=bN w (.cells #[.string s,ae ah (x:Int)] 29)
 have du:=ct.made w 29 #[.string s,ae ah (x:Int)]
 obtain⟨y,HY⟩:∃ y:Nat,Hid (y=w.heap.size):=⟨_,rfl⟩
 obtain⟨wa,dq⟩:∃ wa:World,Hid (wa=w.alloc (.cells #[.string s,ae ah (x:Int)] 29)):=⟨_,rfl⟩
 rw[←dq.out] at hga du
 rw[←HY.out] at du
 have ez:=hS0.join dX hga (R:=Cell y 29 #[.string s,ae ah (x:Int)]) (U:=fun b=>b=y) ⟨rfl,du⟩ (fun b hb=>by have:=HY.out;have:=du.lt;omega)
 have eP:=dX.cons (Cell.framed y 29 #[.string s,ae ah (x:Int)])
 have kf:=ez.blk 0 rfl
 have qi:=ez.blk 1 rfl
 have ha1:=ez.blk 7 rfl
 have KT:=qi
 unfold ov at qi
 unfold ib at ha1
 clear du
 go_enter Tryz.func24,Tryz.ntmps24
 go_wp2_with fail
 rw[←dq.out,←HY.out]
 refine bL 7 48 [(5,.inl (ae af 0))] rfl rfl am am am ?_ ?_
 ·intro x hx φ he
  simp only[aF,aE,or_false] at hx
  rcases hx with rfl<;>cases he
 intro ops' A' K' T hops hA' hK hT
 refine bP 13 (.pointer (some ⟨p.a,0,none⟩)) ?_
 refine bQ 14 (.tmp 13) (.pointer (some ⟨p.a,0,none⟩)) (.pointer (some ⟨p.a,0,none⟩)) ?_
 refine bQ 15 (.tmp 14) (.pointer (some ⟨p.a,0,none⟩)) (.pointer (some ⟨p.a,3,none⟩)) ?_
 refine bI 16 (.tmp 15) (.pointer (some ⟨p.a,3,none⟩)) (.pointer (some ⟨p.st,0,none⟩)) (fun ρ h1 kk w1 (hg:Grow _ w1) hb hf=>by have c:=(ha1.grow hg).cell 3;go_simp) ?_
 refine bI 17 (.tmp 7) (((y:Nat):Value)) (.agg #[.string s,ae ah (x:Int)]) (fun ρ h1 kk w1 (hg:Grow _ w1) hb hf=>by have c0:=(kf.grow hg).cell 0;have c1:=(kf.grow hg).cell 1;go_simp) ?_
 refine cC 18 aj ak (bO aj) (ae af 0) (by rw[hK.out];rfl) 70 _ _ aj [.pointer (some ⟨p.st,0,none⟩),.agg #[.string s,ae ah (x:Int)]] aj R4 (fun kk w1 (hg:Grow _ w1) hb hf=>b_ aj (by exact Im w1 p.st ep none 0 p.z cu (KT.grow hg) s x hp al hx)) ?_
 refine bP 8 (ae af 0) ?_
 refine ce (fun _ _ w1 (hg:Grow _ w1) _ bR=>hT _ _ ?_)
 clear hops hA' hK hT
 simp only[cj,Act.put,aw,ay,az,ax,aB]
 have hS1:=ez.grows eP hg
 have J1:=Just.bJ (V:=cB V w) (hga.trans hg)
 have hY2:=hS1.blk 0 rfl
 have ha2:=hS1.blk 7 rfl
 unfold ib at ha2
 go_wp2_with fail
 refine bL 6 48 [(5,.inr (fun _=>bZ (ny s x)))] rfl rfl am am am ?_ ?_
 ·intro x hx φ he
  simp only[aF,aE,or_false] at hx
  rcases hx with rfl<;>cases he
  all_goals first|exact ca (cn _)|fail
 intro ops' A' K' T hops hA' hK hT
 refine bP 22 (.pointer (some ⟨p.a,0,none⟩)) ?_
 refine bI 23 (.tmp 22) (.pointer (some ⟨p.a,0,none⟩)) (.pointer (some ⟨p.a,0,none⟩)) (fun ρ h1 kk w2 (hg2:Grow _ w2) hb hf=>by go_simp) ?_
 refine bI 24 (.tmp 23) (.pointer (some ⟨p.a,0,none⟩)) (.pointer (some ⟨p.a,2,none⟩)) (fun ρ h1 kk w2 (hg2:Grow _ w2) hb hf=>by go_simp) ?_
 refine bI 25 (.tmp 24) (.pointer (some ⟨p.a,2,none⟩)) (.pointer (some ⟨p.x,0,none⟩)) (fun ρ h1 kk w2 (hg2:Grow _ w2) hb hf=>by have c:=(ha2.grow hg2).cell 2;go_simp) ?_
 refine bI 26 (.tmp 7) (((y:Nat):Value)) (.agg #[.string s,ae ah (x:Int)]) (fun ρ h1 kk w2 (hg2:Grow _ w2) hb hf=>by have c0:=(hY2.grow hg2).cell 0;have c1:=(hY2.grow hg2).cell 1;go_simp) ?_
 refine cH 27 aj ak (bO aj) (fun _=>bZ (ny s x)) (by rw[hK.out];rfl) 72 _ _ aj [.agg #[.string s,ae ah (x:Int)]] aj R5 (fun kk w2 (hg2:Grow _ w2) hb hf=>cr (φ:=fun _=>bZ (ny s x)) aj (by exact uf w2 s x hs)) (fun v27=>?_)
 refine ce (fun _ _ w2 (hg2:Grow _ w2) _ bR=>hT _ _ ?_)
 clear hops hA' hK hT
 simp only[cj,Act.put,aw,ay,az,ax,aB]
 have hI2:bZ (ny s x) v27 w2:=bR.1
 clear bR
 have hS2:=hS1.grows eP hg2
 have J2:=J1.trans (Just.bJ hg2)
 have hC:=hS2.at_ 10 rfl eP (lW w2 p.x p.d n bs (ny s x) k v27 hI2 hn al al)
 go_wp2_with fail
 refine hC.mono ?_
 rintro en w3 ⟨rfl,hj3,dO⟩
 obtain⟨b2,HB2⟩:∃ b2:List UInt8,Hid (b2=bs++frame (ny s x)):=⟨_,rfl⟩
 rw[←HB2.out] at dO
 have dO:Solo (cB V w) (Many (Cell y 29 #[.string s,ae ah (x:Int)] :: (eR p.st p.z ep (ai none 0 0) [] l0 k0 cu++[Cell p.a 143 (ib p node dH now tag last),cJ k_ p.bK asks,cJ mL p.bT tr,cU p.x p.d (n+1) b2 k]))) w3:=dO
 have iU:=(bW (cV p.st p.z ep (ai none 0 0) [] l0 k0 cu) (cE p cW cW.framed node dH now tag last asks tr (n+1) b2 k).tail).cons (Cell.framed y 29 #[.string s,ae ah (x:Int)])
 have J3:=J2.trans hj3
 have kg:=dO.blk 0 rfl
 have KU:=dO.blk 1 rfl
 have Am:=dO.blk 7 rfl
 unfold ov at KU
 unfold ib at Am
 go_wp2_with fail
 refine bL 16 48 [(12,.inr (fun _=>fT 2 1 [.string s,ae ah (x:Int)])),(13,.inr (fun _=>fC w3.heap.size 29 2 1 [.string s,ae ah (x:Int)]))] rfl rfl am am am ?_ ?_
 ·intro x hx φ he
  simp only[aF,aE,or_false] at hx
  rcases hx with rfl|rfl<;>cases he
  all_goals first|exact ca (cn _)|first|exact ca (fj _ _ _)|exact ca (iM _ _ _ _ _)
 intro ops' A' K' T hops hA' hK hT
 refine bP 32 (.pointer (some ⟨p.a,0,none⟩)) ?_
 refine bI 33 (.tmp 32) (.pointer (some ⟨p.a,0,none⟩)) (.pointer (some ⟨p.a,0,none⟩)) (fun ρ h1 kk w4 (hg4:Grow _ w4) hb hf=>by go_simp) ?_
 refine bI 34 (.tmp 33) (.pointer (some ⟨p.a,0,none⟩)) (.pointer (some ⟨p.a,3,none⟩)) (fun ρ h1 kk w4 (hg4:Grow _ w4) hb hf=>by go_simp) ?_
 refine bI 35 (.tmp 34) (.pointer (some ⟨p.a,3,none⟩)) (.pointer (some ⟨p.st,0,none⟩)) (fun ρ h1 kk w4 (hg4:Grow _ w4) hb hf=>by have c:=(Am.grow hg4).cell 3;go_simp) ?_
 refine bP 36 (.pointer (some ⟨p.a,0,none⟩)) ?_
 refine bI 37 (.tmp 36) (.pointer (some ⟨p.a,0,none⟩)) (.pointer (some ⟨p.a,0,none⟩)) (fun ρ h1 kk w4 (hg4:Grow _ w4) hb hf=>by go_simp) ?_
 refine bI 38 (.tmp 37) (.pointer (some ⟨p.a,0,none⟩)) (.pointer (some ⟨p.a,3,none⟩)) (fun ρ h1 kk w4 (hg4:Grow _ w4) hb hf=>by go_simp) ?_
 refine bI 39 (.tmp 38) (.pointer (some ⟨p.a,3,none⟩)) (.pointer (some ⟨p.st,0,none⟩)) (fun ρ h1 kk w4 (hg4:Grow _ w4) hb hf=>by have c:=(Am.grow hg4).cell 3;go_simp) ?_
 refine bI 40 (.tmp 39) (.pointer (some ⟨p.st,0,none⟩)) (.pointer (some ⟨p.st,0,none⟩)) (fun ρ h1 kk w4 (hg4:Grow _ w4) hb hf=>by go_simp) ?_
 refine bI 41 (.tmp 40) (.pointer (some ⟨p.st,0,none⟩)) (.pointer (some ⟨p.st,1,none⟩)) (fun ρ h1 kk w4 (hg4:Grow _ w4) hb hf=>by go_simp) ?_
 refine bI 42 (.tmp 41) (.pointer (some ⟨p.st,1,none⟩)) (ai none 0 0) (fun ρ h1 kk w4 (hg4:Grow _ w4) hb hf=>by have c:=(KU.grow hg4).cell 1;go_simp) ?_
 refine bI 43 (.tmp 7) (((y:Nat):Value)) (.agg #[.string s,ae ah (x:Int)]) (fun ρ h1 kk w4 (hg4:Grow _ w4) hb hf=>by have c0:=(kg.grow hg4).cell 0;have c1:=(kg.grow hg4).cell 1;go_simp) ?_
 refine fE 44 aj ak (bO aj) (fun _=>fT 2 1 [.string s,ae ah (x:Int)]) (by rw[hK.out];rfl) (.tmp 43) (.agg #[.string s,ae ah (x:Int)]) aj (fun ρ h1 kk w4 (hg4:Grow _ w4) hb hf=>by refine cA (φ:=fun _=>fT 2 1 [.string s,ae ah (x:Int)]) aj ?_;exact pw rfl h1) (fun v44=>?_)
 refine gv 45 aj ak (bO aj) (fun _=>fC w3.heap.size 29 2 1 [.string s,ae ah (x:Int)]) (by rw[hK.out];rfl) (.tmp 42) (.tmp 44) (ai none 0 0) (v44) aj aj (fun ρ h1 h2 kk w4 (hg4:Grow _ w4) hb hf=>by refine cA (φ:=fun _=>fC w3.heap.size 29 2 1 [.string s,ae ah (x:Int)]) aj ?_;exact sB Dh hg4.size (cy hf (by rw[hA'.out];kernel_rfl)) h1 h2 rfl (sH _ _) ak) (fun v45=>?_)
 refine bI 46 (.tmp 35) (.pointer (some ⟨p.st,0,none⟩)) (.pointer (some ⟨p.st,0,none⟩)) (fun ρ h1 kk w4 (hg4:Grow _ w4) hb hf=>by go_simp) ?_
 refine bI 47 (.tmp 46) (.pointer (some ⟨p.st,0,none⟩)) (.pointer (some ⟨p.st,1,none⟩)) (fun ρ h1 kk w4 (hg4:Grow _ w4) hb hf=>by go_simp) ?_
 refine ce (fun _ _ w4 (hg4:Grow _ w4) _ bR=>hT _ _ ?_)
 clear hops hA' hK hT
 simp only[cj,Act.put,aw,ay,az,ax,aB]
 obtain⟨A6,c6,e6⟩:=iN bR.1
 obtain⟨U6,JG,NH⟩:fC w3.heap.size 29 2 1 [.string s,ae ah (x:Int)] v45 w4:=bR.1
 clear bR
 subst e6
 have ev:=dO.renew (R:=Bh (.slice A6 1 c6) [(s,x)]) 2 rfl iU hg4 JG NH
 have ev:Solo (cB V w) (Many (Cell y 29 #[.string s,ae ah (x:Int)] :: Cell p.st 148 (ov ep (ai none 0 0) p.z cu) :: (eR p.st p.z ep (.slice A6 1 c6) [(s,x)] l0 k0 cu++[Cell p.a 143 (ib p node dH now tag last),cJ k_ p.bK asks,cJ mL p.bT tr,cU p.x p.d (n+1) b2 k]).tail)) w4:=ev
 have Bg:=(((bW (cV p.st p.z ep (.slice A6 1 c6) [(s,x)] l0 k0 cu) (cE p cW cW.framed node dH now tag last asks tr (n+1) b2 k).tail).tail).cons (Cell.framed p.st 148 (ov ep (ai none 0 0) p.z cu))).cons (Cell.framed y 29 #[.string s,ae ah (x:Int)])
 have J4:=J3.trans (Just.bJ hg4)
 go_wp2_with (refine dp rfl _ _ _ rfl ev Bg J4 1 rfl rfl (.slice A6 1 c6) rfl (aQ rfl) rfl am ?_;intro w5 hS5 J5;refine stay ?_)
 refine bV ?_
 go_wp2_with fail
 go_ret
 have hS5:Solo (cB V w) (Many (Cell y 29 #[.string s,ae ah (x:Int)] :: (eR p.st p.z ep (.slice A6 1 c6) [(s,x)] l0 k0 cu++[Cell p.a 143 (ib p node dH now tag last),cJ k_ p.bK asks,cJ mL p.bT tr,cU p.x p.d (n+1) b2 k]))) w5:=hS5
 have eC:Solo (cB V w) (Many (iW p (cP p.st p.z ep (.slice A6 1 c6) [(s,x)] l0 k0 cu) node dH now tag last asks tr (n+1) b2 k)) w5:=Solo.eG hS5.drop1
 obtain⟨r1,r2⟩:=Solo.done eC J5 hV
 rw[←HB2.out]
 exact⟨rfl,⟨_,r1⟩,r2⟩
theorem rq (w:World) (g:Nat) (l:List Q.Ab) (last:Int) (V:Nat→Prop) (h:Q.ck g l last w V):Calls au 76 #[((g:Nat):Value)] w fun e w'=>e=.returned (ae af last)∧w=w':=by
 obtain⟨_,v,q,R,D,_,_,hB,_⟩:=h
 have c1:=hB.cell 1
 go_enter Tryz.func76,Tryz.ntmps76
 go_wp2_with fail
 go_ret
 exact⟨rfl,rfl⟩
theorem DD (w:World) (f:Value):Calls au 156 #[ai none 0 0,f] w fun e w'=>e=.returned (ae af (-1))∧w=w':=by
 go_enter Tryz.func156,Tryz.ntmps156
 go_wp2_with fail
 go_loopw [8] (fun i wr=>i=ae af 0∧w=wr) (fun _ _=>0)
 case atStart=>exact⟨rfl,rfl⟩
 case round=>
  obtain⟨rfl,rfl⟩:=hrel
  go_wp2_with fail
  go_ret
  exact⟨rfl,rfl⟩
theorem An (w:World) (s:ByteArray) (x:Nat) (A:Option Addr) (c:Nat) (D:Nat→Prop) (hd:fV w D A 1 [(s,x)]):Calls au 74 #[.slice A 1 c] w fun e w'=>∃ A2,e=.returned (.slice A2 1 1)∧fV w' (New w w') A2 1 [(s,x)]∧Grow w w':=by
 go_enter Tryz.func74,Tryz.ntmps74
 go_wp2_with fail
 go_loopw [3,9] (fun u i wr=>(u=ai none 0 0∧i=ae af 0∧w=wr)∨(i=ae af 1∧fC w.heap.size 29 2 1 [.string s,ae ah (x:Int)] u wr∧Grow w wr)) (fun _ i _=>1-(intOf i).toNat)
 case atStart=>exact .inl ⟨rfl,rfl,rfl⟩
 case round=>
  rcases hrel with ⟨rfl,rfl,rfl⟩|⟨rfl,hR,hg⟩
  ·obtain⟨ad,hq,rfl,f0,f1⟩:=gM hd (k:=0) al
   have e0:w.cell? ad=some (.string s):=f0 w (Grow.refl _)
   have e1:w.cell? ⟨ad.block,ad.off+1,none⟩=some (ae ah (x:Int)):=f1 w (Grow.refl _)
   clear f0 f1
   have hga:=bN w (.cells #[.string s,ae ah (x:Int)] 29)
   go_wp2_with fail
   refine (DD _ _).mono ?_
   rintro e w1 ⟨rfl,rfl⟩
   have hgb:=bN (w.alloc (.cells #[.string s,ae ah (x:Int)] 29)) (.cells #[.string s,ae ah (x:Int)] 29)
   have hBb:=iK (ct.made (w.alloc (.cells #[.string s,ae ah (x:Int)] 29)) 29 #[.string s,ae ah (x:Int)]) (size:=2) (n:=1) rfl
   obtain⟨A4,e4,Ey⟩:=hBb
   injection e4 with e4
   subst e4
   have Pw:=Ey.reads
   rw[di w] at Pw
   go_wp2_with (at_builtin;refine stay ?_)
   refine bV ?_
   refine eD Dh _ rfl (.tmp 18) (.tmp 20) rfl (ai none 0 0) 0 [] rfl (Row.nil (V:=fun _=>False)) _ _ 1 1 [.string s,ae ah (x:Int)] rfl Pw (sH _ _) ak ?_
   intro v5 w5 xZ dY
   have hg5:=dY.below (B:=w.heap.size) (fun b hb=>hb.elim) (by simp;omega)
   have hgw:Grow w w5:=Below.trans (hga.trans hgb) hg5
   have hN:fC w.heap.size 29 2 1 [.string s,ae ah (x:Int)] v5 w5:=by
    simp only[a_,aR] at xZ
    refine⟨_,xZ,fun b hb=>?_⟩
    rcases hb with hb|hb
    ·exact hb.elim
    ·exact⟨by have:=hb.1;simp at this;omega,hb.2⟩
   go_wp2_with fail
   go_roundw
   case rel=>exact .inr ⟨rfl,hN,hgw⟩
   case measure=>simp[intOf]
  ·obtain⟨A6,c6,rfl⟩:=iN hR
   obtain⟨U,hU,hlt⟩:=hR
   obtain⟨A7,c7,e7,M0,Px,R6⟩:=hU.fw
   injection e7 with e7 _ e8
   subst e7 e8
   have hC:=iC wr A6 1 c6 Px
   go_wp2_with fail
   refine hC.mono ?_
   rintro e w2 ⟨rfl,rfl⟩
   go_wp2_with fail
   go_ret
   exact⟨A6,rfl,M0.mono hlt,hg⟩
def kn (s:ByteArray) (x:Nat):List UInt8:=eI 3 [0,1,1]++lX [(s,x)]
theorem uu {s:ByteArray} {x:Nat} (h:Small (s,x)):(kn s x).length≤1060:=by
 have h1:=iL 3 [0,1,1] ak ak
 have h2:=mg [(s,x)] fun d hd=>by rw[List.mem_singleton.1 hd];exact h
 unfold kn
 rw[aD]
 simp only[bu,aL] at h1 h2
 omega
theorem IB (w:World) (g:Nat) (l:List Q.Ab) (last:Int) (V:Nat→Prop) (h:Q.ck g l last w V) (k:Nat) (hk:l.length=k):Calls au 159 #[((g:Nat):Value)] w fun e w'=>e=.returned (ae af (k:Int))∧Grow w w':=(Q.Il w g l last V h k hk).mono fun _ _ ⟨h1,h2⟩=>⟨h1,h2▸Grow.refl _⟩
theorem yA (w:World) (g:Nat) (l:List Q.Ab) (last:Int) (V:Nat→Prop) (h:Q.ck g l last w V):Calls au 76 #[((g:Nat):Value)] w fun e w'=>e=.returned (ae af last)∧Grow w w':=(rq w g l last V h).mono fun _ _ ⟨h1,h2⟩=>⟨h1,h2▸Grow.refl _⟩
theorem IC (w:World) (p:uq) (node dH now tag last:Int) (asks:List (Int×Value)) (tr:List ((Int×Int×Int)×Value)) (n:Int) (bs:List UInt8) (k:Nat) (ep:Int) (sl:Value) (s:ByteArray) (x c:Nat) (A:Option Addr) (D:Nat→Prop) (hs:Small (s,x)) (hc1:1≤c) (hc:c≤maxLen) (hn:0≤n∧n≤1099511627776) (hbs:bs.length≤1000000) (V:Nat→Prop) (hM:Many (iW p (cP p.st p.z ep sl [(s,x)] [] 0 (ai none 0 0)) node dH now tag last asks tr n bs k) w V) (hV:∀ b,V b→b<w.heap.size) (hd:fV w D A 1 [(s,x)]) (hDl:∀ b,D b→b<w.heap.size) (j5:∀ b,D b→¬ V b) :
 Calls au 75 #[.pointer (some ⟨p.a,0,none⟩),ae af 0,.slice A 1 c] w fun e w'=>e=.returned (.bool true)∧Many (iW p (iO p.st p.z ep [(1,[(s,x)])] 1) node dH now tag last asks tr (n+1) (bs++frame (kn s x)) k) w' (Ext V w w')∧Just V w w':=by
 have NI:∀ (vs:Array Value) (w:World),(callFunc 159 vs).run au w=.ok (.enter 159 vs) w:=fun vs w=>by go_simp
 have NJ:∀ (vs:Array Value) (w:World),(callFunc 76 vs).run au w=.ok (.enter 76 vs) w:=fun vs w=>by go_simp
 have NK:∀ (vs:Array Value) (w:World),(callFunc 160 vs).run au w=.ok (.enter 160 vs) w:=fun vs w=>by go_simp
 have Pv:∀ (vs:Array Value) (w:World),(callFunc 71 vs).run au w=.ok (.enter 71 vs) w:=fun vs w=>by go_simp
 have k161:∀ (vs:Array Value) (w:World),(callFunc 161 vs).run au w=.ok (.enter 161 vs) w:=fun vs w=>by go_simp
 have hsl:=uu hs
 have hfl:=eS (kn s x) al
 have hsz:=hs.1
 have hS0:=Solo.begin_ hM hV
 have hS0:Solo (cB V w) (Many (eR p.st p.z ep sl [(s,x)] [] 0 (ai none 0 0)++[Cell p.a 143 (ib p node dH now tag last),cJ k_ p.bK asks,cJ mL p.bT tr,cU p.x p.d n bs k])) w:=Solo.flat hS0
 have dX:=bW (cV p.st p.z ep sl [(s,x)] [] 0 (ai none 0 0)) (cE p cW cW.framed node dH now tag last asks tr n bs k).tail
 have xn:=hS0.blk 0 rfl
 have ha0:=hS0.blk 6 rfl
 unfold ov at xn
 unfold ib at ha0
 have k3:=ha0.cell 3
 have q3:=xn.cell 3
 obtain⟨U0,R7,KE⟩:=hS0.see 2 rfl
 go_enter Tryz.func75,Tryz.ntmps75
 go_wp2_with fail
 clear k3 q3
 refine (rq w p.z.a [] 0 U0 R7).mono ?_
 rintro e w1 ⟨rfl,rfl⟩
 have hga:=bN w (.cells #[ae af 1,.slice A 1 c] 159)
 have du:=ct.made w 159 #[ae af 1,.slice A 1 c]
 obtain⟨y,HY⟩:∃ y:Nat,Hid (y=w.heap.size):=⟨_,rfl⟩
 obtain⟨wa,dq⟩:∃ wa:World,Hid (wa=w.alloc (.cells #[ae af 1,.slice A 1 c] 159)):=⟨_,rfl⟩
 rw[←dq.out] at hga du
 rw[←HY.out] at du
 have ez:=hS0.join dX hga (R:=Cell y 159 #[ae af 1,.slice A 1 c]) (U:=fun b=>b=y) ⟨rfl,du⟩ (fun b hb=>by have:=HY.out;have:=du.lt;omega)
 have eP:=dX.cons (Cell.framed y 159 #[ae af 1,.slice A 1 c])
 have kf:=ez.blk 0 rfl
 have ha1:=ez.blk 7 rfl
 unfold ib at ha1
 obtain⟨U1,R8,nN⟩:=ez.see 3 rfl
 have JS:∀ w1,Grow wa w1→Q.ck p.z.a [] 0 w1 U1:=fun w1 hg=>Q.ck.framed _ _ _ wa w1 U1 R8 fun b hb=>hg.block b (nN b hb).2
 have hda:=In.grow hd hga
 clear du
 have hsm:∀ d∈[(s,x)],Small d:=fun d hd=>by rw[List.mem_singleton.1 hd];exact hs
 have Be:∀ w1,Grow wa w1→Calls au 160 #[ae af 0,.agg #[ae af 1,.slice A 1 c]] w1 fun e w'=>∃ v,e=.returned v∧Grow w1 w'∧bZ (kn s x) v w':=fun w1 hg=>w_ w1 0 1 A 1 c [(s,x)] D (In.grow hda hg) ak ak ak hsm
 go_wp2_with fail
 rw[←dq.out,←HY.out]
 refine bL 16 49 [(1,.inl (ae af 0)),(5,.inl (ae af 0)),(15,.inr (fun _=>bZ (kn s x)))] rfl rfl am am am ?_ ?_
 ·intro x hx φ he
  simp only[aF,aE,or_false] at hx
  rcases hx with rfl|rfl|rfl<;>cases he
  all_goals first|exact ca (cn _)|fail
 intro ops' A' K' T hops hA' hK hT
 refine bP 23 (.pointer (some ⟨p.z.a,0,none⟩)) ?_
 refine cC 24 aj ak (bO aj) (ae af 0) (by rw[hK.out];rfl) 159 _ _ aj [.pointer (some ⟨p.z.a,0,none⟩)] aj NI (fun kk w2 (hg2:Grow _ w2) hb hf=>b_ aj (by exact IB w2 p.z.a [] 0 U1 (JS w2 hg2) 0 rfl)) ?_
 refine cm 25 (.tmp 24) (.const (ae af 16)) (ae af 0) (ae af 16) (.bool false) (fun ρ h1 h2 kk w2 (hg2:Grow _ w2) hb hf=>by go_simp) ?_
 refine bP 26 (.bool false) ?_
 refine da 27 (cx hops 3 false 26 false) (.pointer (some ⟨p.z.a,0,none⟩)) ?_
 refine cC 28 aj ak (dF hops 3 false aj 26 aj false aj) (ae af 0) (by rw[hK.out];rfl) 76 _ _ aj [.pointer (some ⟨p.z.a,0,none⟩)] aj NJ (fun kk w2 (hg2:Grow _ w2) hb hf=>b_ aj (by exact yA w2 p.z.a [] 0 U1 (JS w2 hg2))) ?_
 refine dc 29 (cx hops 3 false 26 false) (.tmp 28) (.const (ae af 9223372036854775807)) (ae af 0) (ae af 9223372036854775807) (.bool false) (fun ρ h1 h2 kk w2 (hg2:Grow _ w2) hb hf=>by go_simp) ?_
 refine cG 30 false (.bool false) ?_
 refine bP 31 (.bool false) ?_
 refine da 32 (cx hops 8 false 31 false) (.pointer (some ⟨p.a,0,none⟩)) ?_
 refine bX 33 (cx hops 8 false 31 false) (.tmp 32) (.pointer (some ⟨p.a,0,none⟩)) (.pointer (some ⟨p.a,0,none⟩)) (fun ρ h1 kk w2 (hg2:Grow _ w2) hb hf=>by go_simp) ?_
 refine bX 34 (cx hops 8 false 31 false) (.tmp 33) (.pointer (some ⟨p.a,0,none⟩)) (.pointer (some ⟨p.a,2,none⟩)) (fun ρ h1 kk w2 (hg2:Grow _ w2) hb hf=>by go_simp) ?_
 refine bX 35 (cx hops 8 false 31 false) (.tmp 34) (.pointer (some ⟨p.a,2,none⟩)) (.pointer (some ⟨p.x,0,none⟩)) (fun ρ h1 kk w2 (hg2:Grow _ w2) hb hf=>by have c:=(ha1.grow hg2).cell 2;go_simp) ?_
 refine da 36 (cx hops 8 false 31 false) (ae af 0) ?_
 refine bX 37 (cx hops 8 false 31 false) (.tmp 8) (((y:Nat):Value)) (.agg #[ae af 1,.slice A 1 c]) (fun ρ h1 kk w2 (hg2:Grow _ w2) hb hf=>by have c0:=(kf.grow hg2).cell 0;have c1:=(kf.grow hg2).cell 1;go_simp) ?_
 refine cH 38 aj ak (dF hops 8 false aj 31 aj false aj) (fun _=>bZ (kn s x)) (by rw[hK.out];rfl) 160 _ _ aj [ae af 0,.agg #[ae af 1,.slice A 1 c]] aj NK (fun kk w2 (hg2:Grow _ w2) hb hf=>cr (φ:=fun _=>bZ (kn s x)) aj (by exact Be w2 hg2)) (fun v38=>?_)
 refine ce (fun _ _ w2 (hg2:Grow _ w2) _ bR=>hT _ _ ?_)
 clear hops hA' hK hT
 simp only[cj,Act.put,aw,ay,az,ax,aB]
 have hI2:bZ (kn s x) v38 w2:=by first|exact bR.1|exact bR.2.1|exact bR.2.2.1
 clear bR Be JS
 have hS2:=ez.grows eP hg2
 have J2:=Just.bJ (V:=cB V w) (hga.trans hg2)
 have hC:=hS2.at_ 10 rfl eP (lW w2 p.x p.d n bs (kn s x) k v38 hI2 hn al al)
 go_wp2_with fail
 refine hC.mono ?_
 rintro en w3 ⟨rfl,hj3,dO⟩
 obtain⟨b2,HB2⟩:∃ b2:List UInt8,Hid (b2=bs++frame (kn s x)):=⟨_,rfl⟩
 rw[←HB2.out] at dO
 have dO:Solo (cB V w) (Many (Cell y 159 #[ae af 1,.slice A 1 c] :: (eR p.st p.z ep sl [(s,x)] [] 0 (ai none 0 0)++[Cell p.a 143 (ib p node dH now tag last),cJ k_ p.bK asks,cJ mL p.bT tr,cU p.x p.d (n+1) b2 k]))) w3:=dO
 have iU:=(bW (cV p.st p.z ep sl [(s,x)] [] 0 (ai none 0 0)) (cE p cW cW.framed node dH now tag last asks tr (n+1) b2 k).tail).cons (Cell.framed y 159 #[ae af 1,.slice A 1 c])
 have J3:=J2.trans hj3
 have kg:=dO.blk 0 rfl
 have Am:=dO.blk 7 rfl
 unfold ib at Am
 go_wp2_with fail
 refine bL 6 49 [] rfl rfl am am am ?_ ?_
 ·intro x hx φ he
  cases hx
 intro ops' A' K' T hops hA' hK hT
 refine bP 42 (.pointer (some ⟨p.a,0,none⟩)) ?_
 refine bI 43 (.tmp 42) (.pointer (some ⟨p.a,0,none⟩)) (.pointer (some ⟨p.a,0,none⟩)) (fun ρ h1 kk w4 (hg4:Grow _ w4) hb hf=>by go_simp) ?_
 refine bI 44 (.tmp 43) (.pointer (some ⟨p.a,0,none⟩)) (.pointer (some ⟨p.a,3,none⟩)) (fun ρ h1 kk w4 (hg4:Grow _ w4) hb hf=>by go_simp) ?_
 refine bI 45 (.tmp 44) (.pointer (some ⟨p.a,3,none⟩)) (.pointer (some ⟨p.st,0,none⟩)) (fun ρ h1 kk w4 (hg4:Grow _ w4) hb hf=>by have c:=(Am.grow hg4).cell 3;go_simp) ?_
 refine bP 46 (ae af 0) ?_
 refine bI 47 (.tmp 8) (((y:Nat):Value)) (.agg #[ae af 1,.slice A 1 c]) (fun ρ h1 kk w4 (hg4:Grow _ w4) hb hf=>by have c0:=(kg.grow hg4).cell 0;have c1:=(kg.grow hg4).cell 1;go_simp) ?_
 refine ce (fun _ _ w4 (hg4:Grow _ w4) _ bR=>hT _ _ ?_)
 clear hops hA' hK hT
 simp only[cj,Act.put,aw,ay,az,ax,aB]
 have ev:=dO.grows iU hg4
 have J4:=J3.trans (Just.bJ hg4)
 have hS5:Solo (cB V w) (Many (iW p (cP p.st p.z ep sl [(s,x)] [] 0 (ai none 0 0)) node dH now tag last asks tr (n+1) b2 k)) w4:=Solo.eG ev.drop1
 have sU:=cE p (cP p.st p.z ep sl [(s,x)] [] 0 (ai none 0 0)) (cP.framed _ _ _ _ _ _ _ _) node dH now tag last asks tr (n+1) b2 k
 have hw4:=J4.size
 have hd4:fV w4 D A 1 [(s,x)]:=In.just hd J4 fun b hb hl=>hl.elim (j5 b hb) (fun h=>by have:=hDl b hb;omega)
 have hB:=hS5.zw (C:=fun e=>e=.returned (.tuple #[])) (S':=iO p.st p.z ep [(1,[(s,x)])] 1) 0 rfl sU fun U hU ey wO=>Dj w4 p.st p.z ep sl s x x 1 c [] 0 A D U hU ey hd4 (fun b hb=>by have:=hDl b hb;omega) (fun b hb hu=>(wO b hu).elim (j5 b hb) (fun h=>by have:=hDl b hb;omega)) hc1 hc ak
 go_wp2_with fail
 refine hB.mono ?_
 rintro en w6 ⟨rfl,fI,eC⟩
 go_wp2_with fail
 go_ret
 obtain⟨r1,r2⟩:=Solo.done eC (J4.trans fI) hV
 rw[←HB2.out]
 exact⟨rfl,r1,r2⟩
end Go.Proofs.YtmijcbfgfkeodaaGreatDoor
end
section
namespace Go.Proofs.YtmijcbfgfkeodaaGreatDoor
open Go.RowKit Go.Hop
theorem Ar (w:World) (x:Int):Calls au 365 #[ae ah x] w fun e w'=>∃ y:Int,e=.returned (ae ah y)∧w=w':=by
 go_enter Tryz.func365,Tryz.ntmps365
 go_wp2_with fail
 go_ret
 exact⟨_,rfl,rfl⟩
theorem KV (w:World) (x:Int):Calls au 362 #[ae ah x,ae af 3] w fun e w'=>∃ y:Int,e=.returned (ae af y)∧w=w':=by
 have hN:=Ar w x
 go_enter Tryz.func362,Tryz.ntmps362
 go_wp2_with fail
 refine hN.mono ?_
 rintro e w1 ⟨y,rfl,rfl⟩
 go_wp2_with fail
 go_ret
 exact⟨_,rfl,rfl⟩
theorem IE (w:World):Calls au 361 #[ae af 0,ae af 4,ae af 32] w fun e w'=>e=.returned (ae af 4)∧w=w':=by
 have hmn:∀ ts t w,(Builtin.min_ ts t #[ae af 4,ae af 32]).run au w=.ok (ae af 4) w:=fun ts t w=>by rw[run_min_int2];rfl
 go_enter Tryz.func361,Tryz.ntmps361
 go_wp2_with fail
 go_loopw [7,8] (fun b k wr=>b=ae af 4∧k=ae af 0∧w=wr) (fun _ _ _=>0)
 case atStart=>exact⟨rfl,rfl,rfl⟩
 case round=>
  obtain⟨rfl,rfl,rfl⟩:=hrel
  go_wp2_with fail
  go_ret
  exact⟨rfl,rfl⟩
theorem IF (w:World) (x:Int):Calls au 346 #[ae ah x,ae af 0,ae af 4,ae af 32] w fun e w'=>∃ y:Int,e=.returned (ae af y)∧w=w':=by
 have hB:=IE w
 have hI:=KV w x
 go_enter Tryz.func346,Tryz.ntmps346
 go_wp2_with fail
 refine hB.mono ?_
 rintro e w1 ⟨rfl,rfl⟩
 go_wp2_with fail
 refine hI.mono ?_
 rintro e w1 ⟨y,rfl,rfl⟩
 go_wp2_with fail
 go_ret
 exact⟨_,rfl,rfl⟩
end Go.Proofs.YtmijcbfgfkeodaaGreatDoor
end
section
namespace Go.Proofs.YtmijcbfgfkeodaaGreatDoor
open Go.RowKit Go.Hop V
theorem As (w:World) (p:uq) (node dH now tag last:Int) (asks:List (Int×Value)) (tr:List ((Int×Int×Int)×Value)) (n:Int) (bs:List UInt8) (k:Nat) (B:cg) (hB:Framed B) (k0 k1 k2:Int) (htag:0≤tag∧tag≤4611686018427387904) (V:Nat→Prop) (hM:Many (iW p (B) node dH now tag last asks tr n bs k) w V) (hV:∀ b,V b→b<w.heap.size):Calls au 310 #[.pointer (some ⟨p.a,0,none⟩),.agg #[ae af k0,ae af k1,ae af k2]] w fun e w'=>e=.returned (ae af (tag+1))∧Many (iW p (B) node dH now (tag+1) last (dQ asks (tag+1) (.agg #[ae af k0,ae af k1,ae af k2])) tr n bs k) w' (Ext V w w')∧Just V w w':=by
 have hS0:=Solo.begin_ hM hV
 have dX:=cE p B hB node dH now tag last asks tr n bs k
 have hga:=bN w (.cells #[ae af k0,ae af k1,ae af k2] 26)
 have du:=ct.made w 26 #[ae af k0,ae af k1,ae af k2]
 obtain⟨y,HY⟩:∃ y:Nat,Hid (y=w.heap.size):=⟨_,rfl⟩
 obtain⟨wa,dq⟩:∃ wa:World,Hid (wa=w.alloc (.cells #[ae af k0,ae af k1,ae af k2] 26)):=⟨_,rfl⟩
 rw[←dq.out] at hga du
 rw[←HY.out] at du
 have ez:=hS0.join dX hga (R:=Cell y 26 #[ae af k0,ae af k1,ae af k2]) (U:=fun b=>b=y) ⟨rfl,du⟩ (fun b hb=>by have:=HY.out;have:=du.lt;omega)
 have eP:=dX.cons (Cell.framed y 26 #[ae af k0,ae af k1,ae af k2])
 have Ja:=Just.bJ (V:=cB V w) hga
 have F7:w.heap.size≠0∨True := .inr trivial
 rw[dq.out] at ez Ja
 have ha:=ez.blk 2 rfl
 unfold ib at ha
 have k5:=ha.cell 5
 go_enter Tryz.func310,Tryz.ntmps310
 go_wp2_with (refine dp rfl _ _ _ rfl ez eP Ja 2 rfl rfl (ae af (tag+1)) rfl (aQ rfl) rfl am ?_;intro w2 hS2 J2;refine stay ?_)
 refine bV ?_
 rw[←HY.out]
 clear k5 ha
 have hS2:Solo (cB V w) (Many (Cell y 26 #[ae af k0,ae af k1,ae af k2] :: iW p (B) node dH now (tag+1) last asks tr n bs k)) w2:=hS2
 have hF2:=(cE p B hB node dH now (tag+1) last asks tr n bs k).cons (Cell.framed y 26 #[ae af k0,ae af k1,ae af k2])
 have ha2:=hS2.blk 2 rfl
 have hY2:=hS2.blk 0 rfl
 unfold ib at ha2
 go_wp2_with fail
 refine bL 9 25 [] rfl rfl am am am ?_ ?_
 ·intro x hx φ he
  cases hx
 intro ops' A' K' T hops hA' hK hT
 refine bP 12 (.pointer (some ⟨p.a,0,none⟩)) ?_
 refine bI 13 (.tmp 12) (.pointer (some ⟨p.a,0,none⟩)) (.pointer (some ⟨p.a,0,none⟩)) (fun ρ h1 kk w3 (hg3:Grow _ w3) hb hf=>by go_simp) ?_
 refine bI 14 (.tmp 13) (.pointer (some ⟨p.a,0,none⟩)) (.pointer (some ⟨p.a,8,none⟩)) (fun ρ h1 kk w3 (hg3:Grow _ w3) hb hf=>by go_simp) ?_
 refine bI 15 (.tmp 14) (.pointer (some ⟨p.a,8,none⟩)) (.map (some p.bK)) (fun ρ h1 kk w3 (hg3:Grow _ w3) hb hf=>by have c:=(ha2.grow hg3).cell 8;go_simp) ?_
 refine bP 16 (.pointer (some ⟨p.a,0,none⟩)) ?_
 refine bI 17 (.tmp 16) (.pointer (some ⟨p.a,0,none⟩)) (.pointer (some ⟨p.a,0,none⟩)) (fun ρ h1 kk w3 (hg3:Grow _ w3) hb hf=>by go_simp) ?_
 refine bI 18 (.tmp 17) (.pointer (some ⟨p.a,0,none⟩)) (.pointer (some ⟨p.a,5,none⟩)) (fun ρ h1 kk w3 (hg3:Grow _ w3) hb hf=>by go_simp) ?_
 refine bI 19 (.tmp 18) (.pointer (some ⟨p.a,5,none⟩)) (ae af (tag+1)) (fun ρ h1 kk w3 (hg3:Grow _ w3) hb hf=>by have c:=(ha2.grow hg3).cell 5;go_simp) ?_
 refine bI 20 (.tmp 3) (((y:Nat):Value)) (.agg #[ae af k0,ae af k1,ae af k2]) (fun ρ h1 kk w3 (hg3:Grow _ w3) hb hf=>by have c0:=(hY2.grow hg3).cell 0;have c1:=(hY2.grow hg3).cell 1;have c2:=(hY2.grow hg3).cell 2;go_simp) ?_
 refine ce (fun _ _ w3 (hg3:Grow _ w3) _ bR=>hT _ _ ?_)
 clear hops hA' hK hT
 simp only[cj,Act.put,aw,ay,az,ax,aB]
 have dO:=hS2.grows hF2 hg3
 have J3:=J2.trans (Just.bJ hg3)
 obtain⟨w4,hrun,ev,ko⟩:=dO.qb (φ:=fun w'=>(Instr.mapUpdate 141 (.map (some p.bK)) (ae af (tag+1)) (.agg #[ae af k0,ae af k1,ae af k2])).run au w3=.ok () w') 3 rfl hF2 (fun U hU ey=>by
  obtain⟨w',h1,h2,h3⟩:=cJ.put Ix (t:=141) (et:=26) am hU (tag+1) (.agg #[ae af k0,ae af k1,ae af k2])
  exact⟨w',h1,h2,h3.imp fun b hb=>hb▸hU.1⟩)
 have ev:Solo (cB V w) (Many (Cell y 26 #[ae af k0,ae af k1,ae af k2] :: iW p (B) node dH now (tag+1) last (dQ asks (tag+1) (.agg #[ae af k0,ae af k1,ae af k2])) tr n bs k)) w4:=ev
 have Ez:=ev.blk 2 rfl
 unfold ib at Ez
 have k5:=Ez.cell 5
 go_wp2_with fail
 go_ret
 obtain⟨r1,r2⟩:=Solo.done ev.drop1 (J3.trans ko) hV
 exact⟨rfl,r1,r2⟩
def ki (to:Int) (e:En) (A:Option Addr) (c:Nat):Array Value:=#[ae af to,ae af 1,ae af e.k,ae af e.ag,ae af e.sh,ae af e.sq,ae af e.ep,.slice A e.ds.length c,.string e.se,ae af e.fr,ae af e.tg,ae af 0,ae af 0,ae ah 0,ae af 0,ae af 0,ai none 0 0,ae af 0,ae af 0]
def jh (B:Nat) (e:En) (u:Value) (w:World):Prop:=∃ A c,u=.agg (e.agg A c)∧fY w (fun b=>B≤b∧b<w.heap.size) ⟨e,A,c⟩
def nz (B:Nat) (e:En) (u:Value) (w:World):Prop:=∃ A c,u=.agg (i5 e A c)∧fY w (fun b=>B≤b∧b<w.heap.size) ⟨e,A,c⟩
def l7 (B:Nat) (to:Int) (e:En) (u:Value) (w:World):Prop:=∃ A c,u=.agg (ki to e A c)∧fY w (fun b=>B≤b∧b<w.heap.size) ⟨e,A,c⟩
theorem iw {B:Nat} {x:El} {w w':World} (h:fY w (fun b=>B≤b∧b<w.heap.size) x) (hg:Grow w w'):fY w' (fun b=>B≤b∧b<w'.heap.size) x:=⟨In.mono (In.grow h.1 hg) fun b hb=>⟨hb.1,aA hb.2 hg.size⟩,h.2⟩
theorem kM (B:Nat) (e:En):dv (jh B e):=fun u w w' ⟨A,c,h1,h2⟩ hg=>⟨A,c,h1,iw h2 hg⟩
theorem pH (B:Nat) (e:En):dv (nz B e):=fun u w w' ⟨A,c,h1,h2⟩ hg=>⟨A,c,h1,iw h2 hg⟩
theorem o4 (B:Nat) (to:Int) (e:En):dv (l7 B to e):=fun u w w' ⟨A,c,h1,h2⟩ hg=>⟨A,c,h1,iw h2 hg⟩
theorem uv (B:Nat) (w:World) (V:Nat→Prop) (x:El) (h:fY w V x) (hB:B≤w.heap.size):Calls au 175 #[.agg (x.e.agg x.A x.c)] w fun en w'=>∃ v,en=.returned v∧Grow w w'∧jh B x.e v w':=
 (tH w V x h).mono fun en w' ⟨A',h1,h2,h3⟩=>⟨_,h1,h3,A',_,rfl,In.mono h2.1 fun b hb=>⟨aH hB hb.1,hb.2⟩,h2.2⟩
theorem Au {w:World} {B:Nat} {e:En} {u:Value} {o:Oper} {ρ:Operand→Value} {y:Operand} (ho:o.op=.build 73 #[(0,.const (ae af 1)),(1,y)]) (hc:∀ v,ρ (.const v)=v) (hy:ρ y=u) (hu:jh B e u w):cz au (fun v w'=>Grow w w'∧nz B e v w') ((execOp ρ o).run au w):=by
 obtain⟨A,c,rfl,h⟩:=hu
 obtain⟨dst,op,ty,pos,after,guard⟩:=o
 simp only at ho
 subst ho
 unfold En.agg at hy
 have h0:=hc (ae af 1)
 refine cF (u := .agg (i5 e A c)) (w:=w) ?_ ⟨Grow.refl _,A,c,rfl,h⟩
 unfold i5
 go_simp
theorem xo {w:World} {B:Nat} {to:Int} {e:En} {u:Value} {o:Oper} {ρ:Operand→Value} {x y:Operand} (ho:o.op=.build 270 #[(0,x),(1,y)]) (hx:ρ x=ae af to) (hy:ρ y=u) (hu:nz B e u w):cz au (fun v w'=>Grow w w'∧l7 B to e v w') ((execOp ρ o).run au w):=by
 obtain⟨A,c,rfl,h⟩:=hu
 obtain⟨dst,op,ty,pos,after,guard⟩:=o
 simp only at ho
 subst ho
 unfold i5 at hy
 refine cF (u := .agg (ki to e A c)) (w:=w) ?_ ⟨Grow.refl _,A,c,rfl,h⟩
 unfold ki
 go_simp
def kN (u:Value) (w:World):Prop:=∃ y:Int,u=ae af y
def ru (u:Value) (w:World):Prop:=∃ y:Int,u=.agg #[ae af 1,ae af y]
theorem qj:dv kN:=fun u w w' h _=>h
theorem ql:dv ru:=fun u w w' h _=>h
theorem FA (w:World) (x:Int):Calls au 346 #[ae ah x,ae af 0,ae af 4,ae af 32] w fun e w'=>∃ v,e=.returned v∧Grow w w'∧kN v w':=(IF w x).mono fun e w' ⟨y,h1,h2⟩=>⟨_,h1,h2▸Grow.refl _,y,rfl⟩
theorem DF {w:World} {a:Int} {u:Value} {o:Oper} {ρ:Operand→Value} {x y:Operand} (ho:o.op=.binOp .add 2 x y 2) (hx:ρ x=ae af a) (hy:ρ y=u) (hu:kN u w):cz au (fun v w'=>Grow w w'∧kN v w') ((execOp ρ o).run au w):=by
 obtain⟨b,rfl⟩:=hu
 obtain⟨dst,op,ty,pos,after,guard⟩:=o
 simp only at ho
 subst ho
 exact cF (u := ae af (IntKind.i64.wrap (a+b))) (w:=w) (by go_simp) ⟨Grow.refl _,_,rfl⟩
theorem Av {w:World} {u:Value} {o:Oper} {ρ:Operand→Value} {x y:Operand} (ho:o.op=.build 378 #[(0,x),(1,y)]) (hx:ρ x=ae af 1) (hy:ρ y=u) (hu:kN u w):cz au (fun v w'=>Grow w w'∧ru v w') ((execOp ρ o).run au w):=by
 obtain⟨b,rfl⟩:=hu
 obtain⟨dst,op,ty,pos,after,guard⟩:=o
 simp only at ho
 subst ho
 exact cF (u := .agg #[ae af 1,ae af b]) (w:=w) (by go_simp) ⟨Grow.refl _,_,rfl⟩
theorem DG (w:World) (ρ:Operand→Value) (o:Oper) (ho:o.op=.alloc 32):(execOp ρ o).run au w=.ok (.value (.pointer (some ⟨w.heap.size,0,none⟩))) (w.alloc (.cells #[ae af 0,ae af 0,ae af 0,ae af 0,ae af 0,ai none 0 0,.string ⟨#[]⟩,ae af 0,ae af 0] 32)):=by
 obtain⟨dst,op,ty,pos,after,guard⟩:=o
 simp only at ho
 subst ho
 go_simp
theorem uw (w:World) (ρ:Operand→Value) (o:Oper) (ho:o.op=.alloc 270):(execOp ρ o).run au w=.ok (.value (.pointer (some ⟨w.heap.size,0,none⟩))) (w.alloc (.cells #[ae af 0,ae af 0,ae af 0,ae af 0,ae af 0,ae af 0,ae af 0,ai none 0 0,.string ⟨#[]⟩,ae af 0,ae af 0,ae af 0,ae af 0,ae ah 0,ae af 0,ae af 0,ai none 0 0,ae af 0,ae af 0] 270)):=by
 obtain⟨dst,op,ty,pos,after,guard⟩:=o
 simp only at ho
 subst ho
 go_simp
end Go.Proofs.YtmijcbfgfkeodaaGreatDoor
end
