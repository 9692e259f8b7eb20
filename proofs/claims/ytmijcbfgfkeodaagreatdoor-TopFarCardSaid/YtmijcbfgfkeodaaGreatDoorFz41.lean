/- topFar_card: proved for every input. Within, Tf1, Rowk, Kito, FarRow. -/
import Derived.Test.YtmijcbfgfkeodaaGreatDoorFz40
import Derived.ProofKit
import Derived.OpenShut
import Derived.JoinedCond
import Derived.Test.YtmijcbfgfkeodaaGreatDoorTie
import Derived.Test.YtmijcbfgfkeodaaGreatDoorCards
import Derived.LaidMore
import Derived.Lay
import Derived.SevenTiedAt
import Derived.Stop.Joined
set_option linter.all false
set_option maxRecDepth 100000
section
namespace Go.Proofs.YtmijcbfgfkeodaaGreatDoor
open Go.RowKit Go.Hop
theorem within_any (w:World) (n lo hi:Int) (hn:-9223372036854775808≤n∧n≤9223372036854775807) (h0:-4000000000≤lo) (h1:lo≤hi) (h2:hi≤4000000000) :
 Calls Tryz.prog 11 #[.int .i64 n,.int .i64 lo,.int .i64 hi] w fun e w'=>∃ m:Int,lo≤m∧m≤hi∧e=.returned (.int .i64 m)∧w=w':=by
 by_cases ha:lo≤n
 ·by_cases hb:n≤hi
  ·go_enter Tryz.func11,Tryz.ntmps11
   go_wp2_with fail
   go_ret
   exact⟨n,ha,hb,rfl,rfl⟩
  ·skip
   have hp:=Int.emod_nonneg n (show hi-lo+1≠0 by omega)
   have hl:=Int.emod_lt_of_pos n (show 0<hi-lo+1 by omega)
   have q1:=Int.tmod_lt_of_pos n (show 0<hi-lo+1 by omega)
   have q2:=Int.lt_tmod_of_pos n (show 0<hi-lo+1 by omega)
   go_enter Tryz.func11,Tryz.ntmps11
   go_wp2_with fail
   all_goals
    go_ret
    refine⟨_,?_,?_,rfl,rfl⟩<;>(try unfold wrap64)<;>omega
 ·skip
  have hp:=Int.emod_nonneg n (show hi-lo+1≠0 by omega)
  have hl:=Int.emod_lt_of_pos n (show 0<hi-lo+1 by omega)
  have q1:=Int.tmod_lt_of_pos n (show 0<hi-lo+1 by omega)
  have q2:=Int.lt_tmod_of_pos n (show 0<hi-lo+1 by omega)
  go_enter Tryz.func11,Tryz.ntmps11
  go_wp2_with fail
  all_goals
   go_ret
   refine⟨_,?_,?_,rfl,rfl⟩<;>(try unfold wrap64)<;>omega
end Go.Proofs.YtmijcbfgfkeodaaGreatDoor
end
section
namespace Go.Proofs.YtmijcbfgfkeodaaGreatDoor
open Go.RowKit Go.Hop Go.Proofs.YtmijcbfgfkeodaaGreatDoor.V
def eps1:List (Int×Value):=[(1,.int .i64 1)]
def MS (m i:Nat):Thing:=MachAt m (smA (i-1)) eps1 (if i=1 then none else some ((1,0),(i:Int)-1,0))
theorem MS.framed (m i:Nat):Framed (MS m i):=MachAt.framed _ _ _ _
theorem eps1_look (ep:Int) (h:1≤ep):∃ x:Int,(glk eps1 1).getD (.int .i64 0)=.int .i64 x∧x≤ep:=⟨1,by simp[eps1,glk],h⟩
theorem eps1_put:gput eps1 1 (.int .i64 1)=eps1:=gput_one 1 _ _
theorem far_ok {K:Nat} (h1:1≤K) (h2:K≤100):(enA 1 (K:Int) 1 1 0 0).Ok:=enA_ok (by omega) (by omega) (by omega) (by omega) (by omega) (by omega)
theorem apply_step (w:World) (m i:Nat) (h1:1≤i) (h2:i≤100) (A:Option Addr) (c:Nat) (D V:Nat→Prop) (hV:∀ b,V b→b<w.heap.size) (hd:DIn w D A 1 [(tA1,1)]) (hDl:∀ b,D b→b<w.heap.size) (hDV:∀ b,D b→¬ V b) (h:MS m i w V) :
 Calls Tryz.prog 13 #[.pointer (some ⟨m,0,none⟩),.agg ((enA 1 (i:Int) 1 1 0 0).agg A c)] w fun en w'=>en=.returned (.tuple #[.int .i64 1,.int .u64 0])∧MS m (i+1) w' (Ext V w w')∧Just V w w':=by
 have hq:=smA_len (i-1)
 have hok:=far_ok h1 h2
 have hmay:K.mayE (smA (i-1)) [(tA1,1)]=0:=mayE_smA (i-1) 1 (by omega)
 have hadd:K.addM (smA (i-1)) [(tA1,1)]=smA (i-1+1):=addM_smA (i-1) 1 (by omega) (by omega)
 have hi:i-1+1=i:=by omega
 rw[hi] at hadd
 unfold MS at h ⊢
 rw[if_neg (show ¬ i+1=1 by omega),show i+1-1=i by omega,show ((i+1:Nat):Int)-1=(i:Int) by omega]
 by_cases he:i=1
 ·rw[if_pos he] at h
  subst he
  refine (mach_ack_0 w m _ eps1 0 0 (enA 1 ((1:Nat):Int) 1 1 0 0) A c D V hV hok rfl hd hDl hDV (by omega) (seen_next 0) (far_next 0) (eps1_look 1 (by omega)) hmay h).mono fun en w' ⟨r1,r2,r3⟩=>⟨r1,?_,r3⟩
  have hA:W.addS 0 0 ((1:Nat):Int)=(((1:Nat):Int),0):=addS_next 0
  have r2:MachAt m (K.addM (smA (1-1)) [(tA1,1)]) (gput eps1 1 (.int .i64 1)) (some ((1,0),(W.addS 0 0 ((1:Nat):Int)).1,(W.addS 0 0 ((1:Nat):Int)).2)) w' (Ext V w w'):=r2
  rw[hA,hadd,eps1_put] at r2
  exact r2
 ·rw[if_neg he] at h
  obtain⟨F,hF⟩:∃ F:Int,(i:Int)=F+1:=⟨(i:Int)-1,by omega⟩
  have hF2:(i:Int)-1=F:=by omega
  rw[hF2] at h
  refine (mach_ack_1 w m _ eps1 F 0 (enA 1 (i:Int) 1 1 0 0) A c D V hV hok rfl hd hDl hDV (by omega) (winv_0 F (by omega) (by omega)) (by show W.seen F 0 (i:Int)=false;rw[hF];exact seen_next F) (by show W.far F (i:Int)=false;rw[hF];exact far_next F) (eps1_look 1 (by omega)) hmay h).mono fun en w' ⟨r1,r2,r3⟩=>⟨r1,?_,r3⟩
  have r2:MachAt m (K.addM (smA (i-1)) [(tA1,1)]) (gput eps1 1 (.int .i64 1)) (some ((1,0),(W.addS F 0 (i:Int)).1,(W.addS F 0 (i:Int)).2)) w' (Ext V w w'):=r2
  rw[hadd,eps1_put,hF,addS_next F,←hF] at r2
  exact r2
set_option maxHeartbeats 2000000 in
theorem topFar_1 (w:World) (n:Int) (hn:-9223372036854775808≤n∧n≤9223372036854775807):Calls Tryz.prog 3 #[.int .i64 n] w fun e w'=>e=.returned (.bool true)∧Grow w w':=by
 have hWn:=within_any w n 0 20 hn (by omega) (by omega) (by omega)
 have hNw:=maNew_any w
 go_enter Tryz.func3,Tryz.ntmps3
 go_wp2_with fail
 refine hWn.mono ?_
 rintro e w1 ⟨n1,hn0,hn20,rfl,rfl⟩
 have hwr:IntKind.i64.wrap (65+n1)=65+n1:=by rw[IntKind.wrap_i64];omega
 have hwr2:wrap64 (65+n1)=65+n1:=by unfold wrap64;omega
 go_wp2_with fail
 refine hNw.mono ?_
 rintro e w1 ⟨m,rfl,hM1,hg1⟩
 clear hwr hwr2
 obtain⟨K,hK⟩:∃ K:Nat,(65+n1:Int)=(K:Int):=⟨(65+n1).toNat,by omega⟩
 have hK1:65≤K:=by omega
 have hK2:K≤85:=by omega
 rw[hK]
 clear hK hn0 hn20
 have gx:=grow_alloc w1 (.cells #[.string tA1,.int .u64 1] 29)
 have bx:=Blk.made w1 29 #[.string tA1,.int .u64 1]
 go_wp2_with (refine wpList_new rfl (run_alcE _ _ _ rfl) ?_;intro y w2 hB2 hg2 hz2 hs2;refine stay ?_)
 refine stay_out ?_
 have hg2:Grow (w1.alloc (.cells #[.string tA1,.int .u64 1] 29)) w2:=hg2
 have hz2:(w1.alloc (.cells #[.string tA1,.int .u64 1] 29)).heap.size=y:=hz2
 obtain⟨x,HX⟩:∃ x:Nat,Hid (x=w1.heap.size):=⟨_,rfl⟩
 rw[←HX.out] at bx ⊢
 go_wp2_with (refine wpList_fill rfl 32 _ _ rfl _ rfl [.int .i64 1,.int .i64 1,.int .i64 0,.int .i64 (K:Int),.int .i64 1,.slice (some ⟨x,0,none⟩) 1 1,.string ⟨#[]⟩,.int .i64 0,.int .i64 0] rfl hB2 rfl rfl (by kernel_rfl) ?_;intro w3 hY3 hj3 hs3;refine stay ?_)
 refine stay_out ?_
 have hxlt:=bx.lt
 have hg3:Grow (w1.alloc (.cells #[.string tA1,.int .u64 1] 29)) w3:=Below.trans hg2 (hj3.below (B:=(w1.alloc (.cells #[.string tA1,.int .u64 1] 29)).heap.size) (fun b hb=>by have e2:b=y:=hb;omega) (by omega))
 have hg13:Grow w1 w3:=gx.trans hg3
 have hx3:=bx.grow hg3
 have hd3:DIn w3 (fun b=>b=x) (some ⟨x,0,none⟩) 1 [(tA1,1)]:=hx3.in_ (size:=2) (n:=1) (by rfl)
 have hyx:y≠x:=by omega
 have hyz:w1.heap.size≤y:=by have:=gx.size;omega
 have hxz:w1.heap.size≤x:=by have:=HX.out;omega
 have hxl3:=hx3.lt
 have hyl3:=hY3.lt
 have hl1:∀ b,New w w1 b→b<w3.heap.size:=fun b hb=>Nat.lt_of_lt_of_le hb.2 hg13.size
 have hS3:Solo (Lic (New w w1) w3) (Many [MachAt m [] [] none]) w3:=Solo.begin_ ⟨New w w1,fun _=>False,MachAt.framed m [] [] none w1 w3 _ hM1 (fun b hb=>hg13.block b hb.2),trivial,fun _ h=>h,fun _ h=>h.elim,fun _ _ h=>h⟩ hl1
 have hF1:∀ i,AllFramed [MS m i]:=fun i=>AllFramed.nil.cons (MS.framed m i)
 have hxn:¬ Lic (New w w1) w3 x:=fun h=>h.elim (fun h=>by have:=h.2;omega) (fun h=>by omega)
 have hyn:¬ Lic (New w w1) w3 y:=fun h=>h.elim (fun h=>by have:=h.2;omega) (fun h=>by omega)
 have hDn:∀ b,(fun b=>b=x) b→¬ Lic (New w w1) w3 b:=fun b hb h=>by
  have e2:b=x:=hb
  rw[e2] at h
  exact hxn h
 have hA0:=Solo.atV 0 rfl (AllFramed.nil.cons (MachAt.framed m [] [] none)) hS3 (fun U hU hUl hUP=>mach_far_0 w3 m [] [] 0 0 (enA 1 (K:Int) 1 1 0 0) (some ⟨x,0,none⟩) 1 (fun b=>b=x) U hUl (far_ok (by omega) (by omega)) rfl hd3 (fun b hb=>by have e2:b=x:=hb;omega) (fun b hb hu=>hDn b hb (hUP b hu)) (by simp) (seen_k (K:Int) (by omega)) (far_k (K:Int) (by omega)) ⟨0,rfl,by show (0:Int)≤1;omega⟩ hU)
 go_wp2_with (refine wpList_load_blk rfl 32 _ rfl _ rfl (hY3) Tryz.underlying32 (by kernel_rfl) ?_)
 refine hA0.mono ?_
 rintro e w4 ⟨rfl,hj4,hS4⟩
 have hS4:Solo (Lic (New w w1) w3) (Many [MS m 1]) w4:=hS4
 go_wp2_with fail
 go_loopw [8] (fun v wr=>∃ i:Nat,1≤i∧i≤K∧v=.int .i64 (i:Int)∧Solo (Lic (New w w1) w3) (Many [MS m i]) wr∧Just (Lic (New w w1) w3) w3 wr) (fun v _=>K-(intOf v).toNat)
 case atStart=>exact⟨1,Nat.le_refl _,by omega,rfl,hS4,hj4⟩
 case round=>
  obtain⟨i,hi1,hiK,rfl,hSr,hjr⟩:=hrel
  have hYr:=hjr.blk hY3 hyn
  have hzr:=hjr.size
  by_cases hlt:i<K
  ·go_wp2_with (first|(refine wpList_load_blk rfl 32 _ rfl _ rfl (hYr) Tryz.underlying32 (by kernel_rfl) ?_)|(refine wpList_new rfl (run_alcE _ _ _ rfl) ?_;intro z w5 hB5 hg5 hz5 hs5;refine stay ?_))
   refine stay_out ?_
   go_wp2_with (refine wpList_fill rfl 32 _ _ rfl _ rfl [.int .i64 1,.int .i64 1,.int .i64 0,.int .i64 (K:Int),.int .i64 1,.slice (some ⟨x,0,none⟩) 1 1,.string ⟨#[]⟩,.int .i64 0,.int .i64 0] rfl hB5 rfl rfl (by kernel_rfl) ?_;intro w6 hZ6 hj6 hs6;refine stay ?_)
   refine stay_out ?_
   have hg6:Grow wr w6:=Below.trans hg5 (hj6.below (B:=wr.heap.size) (fun b hb=>by have e2:b=z:=hb;omega) (by omega))
   have hS6:=hSr.join (hF1 i) hg6 (R:=Cell z 32 #[.int .i64 1,.int .i64 1,.int .i64 0,.int .i64 (K:Int),.int .i64 1,.slice (some ⟨x,0,none⟩) 1 1,.string ⟨#[]⟩,.int .i64 0,.int .i64 0]) (U:=fun b=>b=z) ⟨rfl,hZ6⟩ (fun b hb=>by have e2:b=z:=hb;omega)
   have hF6:=(hF1 i).cons (Cell.framed z 32 #[.int .i64 1,.int .i64 1,.int .i64 0,.int .i64 (K:Int),.int .i64 1,.slice (some ⟨x,0,none⟩) 1 1,.string ⟨#[]⟩,.int .i64 0,.int .i64 0])
   have J6:=hjr.trans (Just.of_grow hg6)
   have k3:=hZ6.cell 3
   go_wp2_with (refine wpList_putS rfl _ _ _ rfl hS6 hF6 J6 0 rfl rfl (.int .i64 (i:Int)) rfl (Nat.le_of_ble_eq_true rfl) rfl (by kernel_rfl) ?_;intro w7 hS7 J7;refine stay ?_)
   refine stay_out ?_
   clear k3
   have hS7:Solo (Lic (New w w1) w3) (Many [Cell z 32 #[.int .i64 1,.int .i64 1,.int .i64 0,.int .i64 (i:Int),.int .i64 1,.slice (some ⟨x,0,none⟩) 1 1,.string ⟨#[]⟩,.int .i64 0,.int .i64 0],MS m i]) w7:=hS7
   have hz7:=hS7.blk 0 rfl
   have hz37:=J7.size
   have hA7:=Solo.atV 1 rfl ((hF1 i).cons (Cell.framed z 32 #[.int .i64 1,.int .i64 1,.int .i64 0,.int .i64 (i:Int),.int .i64 1,.slice (some ⟨x,0,none⟩) 1 1,.string ⟨#[]⟩,.int .i64 0,.int .i64 0])) hS7 (fun U hU hUl hUP=>apply_step w7 m i hi1 (by omega) (some ⟨x,0,none⟩) 1 (fun b=>b=x) U hUl (In.just hd3 J7 hDn) (fun b hb=>by have e2:b=x:=hb;omega) (fun b hb hu=>hDn b hb (hUP b hu)) hU)
   go_wp2_with (refine wpList_load_blk rfl 32 _ rfl _ rfl (hz7) Tryz.underlying32 (by kernel_rfl) ?_)
   refine hA7.mono ?_
   rintro e w8 ⟨rfl,hj8,hS8⟩
   go_wp2_with fail
   go_roundw
   case rel=>exact⟨i+1,by omega,by omega,by go_num,Solo.drop1 hS8,J7.trans hj8⟩
   case measure=>simp[intOf];omega
  ·obtain rfl:i=K:=by omega
   have hA5:=Solo.atV 0 rfl (hF1 i) hSr (fun U hU hUl hUP=>apply_step wr m i hi1 (by omega) (some ⟨x,0,none⟩) 1 (fun b=>b=x) U hUl (In.just hd3 hjr hDn) (fun b hb=>by have e2:b=x:=hb;omega) (fun b hb hu=>hDn b hb (hUP b hu)) hU)
   go_wp2_with (refine wpList_load_blk rfl 32 _ rfl _ rfl (hYr) Tryz.underlying32 (by kernel_rfl) ?_)
   refine hA5.mono ?_
   rintro e w5 ⟨rfl,hj5,hS5⟩
   have J5:=hjr.trans hj5
   have hY5:=J5.blk hY3 hyn
   have hS5:Solo (Lic (New w w1) w3) (Many [MachAt m (smA i) eps1 (some ((1,0),(i:Int),0))]) w5:=by
    have h:Solo (Lic (New w w1) w3) (Many [MS m (i+1)]) w5:=hS5
    unfold MS at h
    rw[if_neg (show ¬ i+1=1 by omega),show i+1-1=i by omega,show ((i+1:Nat):Int)-1=(i:Int) by omega] at h
    exact h
   have hF5:AllFramed [MachAt m (smA i) eps1 (some ((1,0),(i:Int),0))]:=AllFramed.nil.cons (MachAt.framed _ _ _ _)
   have hq:=smA_len i
   have hz5:=J5.size
   have hA6:=Solo.atV 0 rfl hF5 hS5 (fun U hU hUl hUP=>mach_dup_1 w5 m (smA i) eps1 (i:Int) 0 (enA 1 (i:Int) 1 1 0 0) (some ⟨x,0,none⟩) 1 (fun b=>b=x) U hUl (far_ok (by omega) (by omega)) rfl (In.just hd3 J5 hDn) (fun b hb=>by have e2:b=x:=hb;omega) (fun b hb hu=>hDn b hb (hUP b hu)) (by omega) (winv_0 _ (by omega) (by omega)) (seen_at _ _) hU)
   go_wp2_with (refine wpList_load_blk rfl 32 _ rfl _ rfl (hY5) Tryz.underlying32 (by kernel_rfl) ?_)
   refine hA6.mono ?_
   rintro e w6 ⟨rfl,hj6,hS6⟩
   have hS6:Solo (Lic (New w w1) w3) (Many [MachAt m (smA i) eps1 (some ((1,0),(i:Int),0))]) w6:=hS6
   obtain⟨U6,hU6,_⟩:=hS6.see 0 rfl
   have hFl:=maFloor_one w6 m (smA i) eps1 1 0 (i:Int) 0 U6 hU6
   have J6:=J5.trans hj6
   go_wp2_with fail
   refine hFl.mono ?_
   rintro e w7 ⟨rfl,hg7⟩
   have hAw:=awake_1 w7
   go_wp2_with fail
   refine hAw.mono ?_
   rintro e w8 ⟨rfl,hg8⟩
   go_wp2_with fail
   go_ret
   have hgA:Grow w w6:=Below.trans (hg1.trans hg13) (J6.below (B:=w.heap.size) (fun b hb=>hb.elim (fun h=>h.1) (fun h=>Nat.le_trans (hg1.trans hg13).size h)) (hg1.trans hg13).size)
   exact⟨rfl,hgA.trans (hg7.trans hg8)⟩
end Go.Proofs.YtmijcbfgfkeodaaGreatDoor
end
section
namespace Go.Hop
open Go.ChangeShapes Go.WideShapes Go.ChangeAt Go.RowKit
section
variable {H:Type} {enc:TypeId×Value→H} {P:Program}
theorem trodAll_below (hl:laidOutB P=true) {W W':World} (hb:Below W.heap.size W W'):∀ (ts:List TypeId) (vs:List Value) (ds:List (DataW H)) (ps:List MemPlace),
 (∀ t∈ts,P.readableRec t=true∧t<P.types.size)→DataW.TrodAll enc P W 0 (fun _=>true) true ts vs ds ps→(∀ x∈ps,x.block<W.heap.size)→
 DataW.TrodAll enc P W' 0 (fun b=>decide (b<W.heap.size)) true ts vs ds ps
 | [],vs,ds,ps,_,h,_=>by
   obtain⟨rfl,rfl,rfl⟩:=trodAll_nil h
   exact trodAll_mk0
 | t :: ts,vs,ds,ps,hr,h,hlt=>by
   obtain⟨v0,vs0,d0,ds0,p0,q0,rfl,rfl,rfl,h0,r0⟩:=trodAll_cons h
   obtain⟨h1,h2⟩:=hr t (by simp)
   exact⟨p0,q0,Below.trod hl h1 h2 h0 hb (fun x hx=>hlt x (by simp[hx])),trodAll_below hl hb ts vs0 ds0 q0 (fun u hu=>hr u (by simp[hu])) r0 (fun x hx=>hlt x (by simp[hx])),rfl⟩
theorem law_post {f:Func} {s:ChangeSpec} {tb:TypeId} (hl:laidOutB P=true) (htb:P.underlying tb=some .bool) (hres:f.resultTypes=#[tb]) (hvars:s.vars=[])
 (hr0:(f.params.toList.all fun t=>P.readableRec t && decide (t<P.types.size))=true) {W W':World} {args:Array Value} {ds gs:List (DataW H)} {before:List MemPlace}
 (hW:DataW.Whole enc P f.params.toList s.vars false W args.toList ds gs before) (hspec:s.fn H ds={ results:=[.lit (.bool true)],args:=ds }) (hb:Below W.heap.size W W') :
 s.post enc P f false true false false W args (.bool true) W':=by
 have hW':=hW
 have hr:∀ t∈f.params.toList,P.readableRec t=true∧t<P.types.size:=by
  intro t ht
  simpa using List.all_eq_true.1 hr0 t ht
 have hlt:∀ p∈before,p.block<W.heap.size:=fun p hp=>hW'.lt p hp
 obtain⟨p,q,hA,hV,rfl,hfz,hnd⟩:=hW
 rw[hvars] at hV
 obtain⟨rfl,rfl⟩:=trodVars_none hV
 refine⟨ds,[],p++[],[],p,[],hW',?_,?_,?_,World.keptBut_mono (fun x hx=>⟨hx,?_⟩) (hb.frame (·∈p++[])),fun h=>by cases h⟩
 ·rw[List.append_nil,hspec,hres]
  exact trodAll_mk1 (shut_bool htb true)
 ·rw[List.append_nil,hspec]
  exact trodAll_below hl hb _ _ _ _ hr hA (fun x hx=>hlt x (by simp[hx]))
 ·rw[List.append_nil,hspec,hvars]
  rfl
 ·exact Or.inr (Or.inl (by simpa using hx))
end
end Go.Hop
end
section
namespace Go.Proofs.YtmijcbfgfkeodaaGreatDoor
open Go.RowKit Go.Hop Go.ChangeShapes Go.WideShapes Go.ChangeAt
theorem own:ownKnob Tryz.prog.godebug=none:=by kernel_rfl
theorem laidOut:laidOutB Tryz.prog=true:=by kernel_rfl
end Go.Proofs.YtmijcbfgfkeodaaGreatDoor
end
section
namespace Go.Proofs.YtmijcbfgfkeodaaGreatDoor
open Go.RowKit Go.Hop Go.ChangeShapes Go.WideShapes Go.ChangeAt
open Go.ChangeMaps (open_string)
theorem topFar_contract (H:Type) (enc:TypeId×Value→H) (W:World) (base:Nat) (args:Array Value) (ds gs:List (DataW H)) (before:List MemPlace)
 (hval:∀ (j:Nat) t v,Tryz.f3.params[j]?=some t→args[j]?=some v→Value.okWide Tryz.prog W .any base t v)
 (hW:DataW.Whole enc Tryz.prog Tryz.f3.params.toList Rows.topFarSpec.vars false W args.toList ds gs before) :
 Calls Tryz.prog 3 args W fun e W'=>∃ v,e=.returned v∧Rows.topFarSpec.post enc Tryz.prog Tryz.f3 false true false false W args v W':=by
 have hW':=hW
 obtain⟨p,q,hA0,hV,rfl,hfz,hnd⟩:=hW
 have hA:DataW.TrodAll enc Tryz.prog W 0 (fun _=>true) true Tryz.f3.params.toList args.toList ds p:=hA0
 rw[Tryz.params3] at hA hval
 obtain⟨v0,vs0,d0,ds0,p0,q0,hargs,rfl,rfl,h0,r0⟩:=trodAll_cons hA
 obtain⟨rfl,rfl,rfl⟩:=trodAll_nil r0
 obtain rfl:args=#[v0]:=by cases args;simp_all
 obtain⟨rfl,rfl⟩:=trodVars_none hV
 obtain⟨x0,rfl,_,_,wx0⟩:=open_int Tryz.underlying3 (hval 0 3 v0 rfl rfl) h0
 have hx0:-9223372036854775808≤x0∧x0≤9223372036854775807:=by simpa [Lit.wf,IntKind.min,IntKind.max,IntKind.signed,IntKind.bits] using wx0
 refine (topFar_1 W x0 hx0).mono fun e W' ⟨he,hg⟩=>?_
 subst he
 exact⟨_,rfl,law_post laidOut Tryz.underlying4 rfl rfl (by kernel_rfl) hW' rfl hg⟩
theorem topFar_lifted (os:Os) (started:os.Started) (H:Type) (enc:TypeId×Value→H) :
 ReturnsInHanded {} Tryz.checked os 3 .any (fun w args=>(Rows.topFarSpec.pre enc Tryz.prog Tryz.f3 Rows.topFarRow.domain false w args∧laidMetH Tryz.prog Rows.topFarRow.laid w)∧sizedMet enc Tryz.prog Tryz.f3 (OpenSpec.ofChange Rows.topFarSpec) false w args)
  (Rows.topFarSpec.post enc Tryz.prog Tryz.f3 false true false false):=by
 refine returnsInHanded_of_change_and (C:=Tryz.checked) (X:=fun w _=>laidMetH Tryz.prog Rows.topFarRow.laid w) (fun _ _ _ hh h=>h.of_heap hh) own started (by kernel_rfl) Tryz.func3
  (ChangeSpec.witness_shaped (enc:=enc) (C:=Tryz.checked) (os:=os) (X:=fun w _=>laidMetH Tryz.prog Rows.topFarRow.laid w) false (World.laidAll Tryz.prog os Rows.topFarRow.laid) #[.int .i64 0] 8 (World.laidAll_os _ _ _)
   (World.shaped_of_ZipB (by kernel_rfl) (by kernel_rfl)) (by kernel_rfl) (by kernel_rfl) (by kernel_rfl)
   (by rw[MakeChecks.laidMetH_plain _ _ _ (by kernel_rfl)];exact laidMet_laidAll _ (by kernel_rfl) (by kernel_rfl))) ?_
 intro W base args ds gs before hval0 hW _ _ _ _
 have hval:∀ (j:Nat) t v,Tryz.f3.params[j]?=some t→args[j]?=some v→Value.okWide Tryz.prog W .any base t v:=hval0
 exact topFar_contract H enc W base args ds gs before hval hW
theorem topFar_wf:Rows.topFarRow.wf (OpenSpec.ofChange Rows.topFarSpec)=true:=by kernel_rfl
theorem topFar_maps:mapsRowed Tryz.prog=true:=by kernel_rfl
theorem topFar_pars:Tryz.f3.params.all (Tryz.prog.readableRec ·)=true:=by kernel_rfl
theorem topFar_tie:namedTie Tryz.prog Rows.topFarRow.named Rows.topFarSpec.vars=true:=by kernel_rfl
theorem topFar_stops:(Tryz.prog.stops == [])=true:=by kernel_rfl
theorem topFar_knobs:(Tryz.prog.stopKnobs == [])=true:=by kernel_rfl
theorem topFar_inp:(Rows.topFarRow.inPlace == Tryz.prog.inPlace 3)=true:=by kernel_rfl
theorem topFar_unf:(Rows.topFarRow.unfollowed == Tryz.prog.unfollowed 3)=true:=by kernel_rfl
theorem topFar_rec:(Rows.topFarRow.recurses == Tryz.prog.recurses 3)=true:=by kernel_rfl
theorem topFar_nam:(Rows.topFarRow.named == Tryz.prog.varsNamed 3)=true:=by kernel_rfl
theorem topFar_keys:(Rows.topFarRow.plainKeys == Tryz.prog.plainKeys)=true:=by kernel_rfl
theorem topFar_heard:Tryz.prog.stopsHeard=true:=by kernel_rfl
theorem topFar_enter:Tryz.prog.mayEnter=true:=by kernel_rfl
theorem topFar_lift:(Rows.topFarRow.lifted == Tryz.prog.liftsFinal)=true:=by kernel_rfl
theorem topFar_make:(Tryz.prog.make == some Rows.topFarRow.make)=true:=by kernel_rfl
theorem and_both {a b:Bool} (ha:a=true) (hb:b=true):(a && b)=true:=by rw[ha,hb];rfl
theorem topFar_closed:joinedFacts Tryz.prog 3 Tryz.f3 Rows.topFarSpec Rows.topFarRow=true:=by
 unfold joinedFacts
 exact and_both (and_both (and_both (and_both (and_both (and_both (and_both (and_both (and_both (and_both (and_both (and_both (and_both (and_both (and_both (and_both (and_both (and_both (and_both (and_both (and_both (and_both (and_both (and_both (and_both (and_both (and_both (and_both (and_both (and_both (and_both topFar_wf laidOut) topFar_maps) topFar_pars) topFar_tie) (by as_aux_lemma=>kernel_rfl)) topFar_stops) (by as_aux_lemma=>kernel_rfl)) topFar_knobs) topFar_inp) topFar_unf) topFar_rec) topFar_nam) (by as_aux_lemma=>kernel_rfl)) (by as_aux_lemma=>kernel_rfl)) (by as_aux_lemma=>kernel_rfl)) (by as_aux_lemma=>kernel_rfl)) (by as_aux_lemma=>kernel_rfl)) (by as_aux_lemma=>kernel_rfl)) (by as_aux_lemma=>kernel_rfl)) (by as_aux_lemma=>kernel_rfl)) (by as_aux_lemma=>kernel_rfl)) topFar_keys) (by as_aux_lemma=>kernel_rfl)) topFar_heard) topFar_enter) topFar_lift) topFar_make) (by as_aux_lemma=>kernel_rfl)) (by as_aux_lemma=>kernel_rfl)) (by as_aux_lemma=>kernel_rfl)) (by as_aux_lemma=>kernel_rfl)
theorem topFar_proved:Rows.TopFarSaid:=
 OpenClaim.holds_of_wide 3 Tryz.f3 rfl rfl rfl rfl rfl rfl rfl ⟨rfl,rfl,rfl,rfl,rfl⟩ rfl rfl rfl rfl rfl (by as_aux_lemma=>kernel_rfl) Tryz.func3 topFar_closed
  (of_decide_eq_true (by as_aux_lemma=>kernel_rfl)) (by unfold Func.isWrapper;first|(rw[if_pos (by decide +kernel)];kernel_rfl)|(rw[if_neg (by decide +kernel)];exact⟨rfl,rfl⟩))
  (fun os started H enc _=>topFar_lifted os started H enc)
theorem topFar_card:Rows.TopFarCardSaid:=
 Claim7.holds_tied_plain_at .later [] [.data,.pinned] true (true, "432da837a4f61510b5613f3131fe56fb9e26e86a1acc7876123bd25e713e1a32") false topFar_proved (fun _ h=>by cases h) (by as_aux_lemma=>kernel_rfl) (fun _ h=>by cases h) topFar_row_tie rfl ⟨rfl,rfl⟩ (by as_aux_lemma=>kernel_rfl) rfl
  (fun f fn hf hfn=>by
   obtain rfl:f=3:=Option.some.inj ((show Tryz.prog.funcNamed "hopper/hoppertop.TopFar" = some 3 by kernel_rfl).symm.trans hf) |>.symm
   obtain rfl:fn=Tryz.f3:=(Option.some.inj (Tryz.func3.symm.trans hfn)).symm
   exact⟨by kernel_rfl,fun j t ht=>by
    rw[Tryz.params3] at ht
    have hm:t∈[3]:=by simpa using Array.mem_of_getElem? ht
    have hall:([3].all fun u => !Tryz.prog.wantsStandIn u)=true:=by kernel_rfl
    exact (show Tryz.prog.wantsStandIn t=false by simpa using List.all_eq_true.1 hall t hm)⟩)
  (by as_aux_lemma=>kernel_rfl)
end Go.Proofs.YtmijcbfgfkeodaaGreatDoor
end
