/- Vplain, Bts, Vput, Vget, Str, Vref, Vrget. -/
import Derived.Test.YtmijcbfgfkeodaaGreatDoorHz02
import Derived.Lib.SlBytesConst
import Derived.Lib.AppendStr
set_option linter.all false
set_option maxRecDepth 100000
section
namespace Go.Proofs.YtmijcbfgfkeodaaGreatDoor.V
open Go.RowKit Go.Hop
def enc (n:Nat):List UInt8:=if n<128 then [UInt8.ofNat n] else UInt8.ofNat (n % 128+128) :: enc (n / 128)
termination_by n
decreasing_by omega
def val:List UInt8→Nat
 | []=>0
 | c :: l=>c.toNat % 128+128*val l
def Canon:List UInt8→Prop
 | []=>False
 | [c]=>c.toNat<128
 | c :: d :: l=>128≤c.toNat∧(d :: l)≠[0]∧Canon (d :: l)
theorem of_nat {n:Nat} (h:n<256):(UInt8.ofNat n).toNat=n:=by
 rw[UInt8.toNat_ofNat'];omega
theorem enc_small {n:Nat} (h:n<128):enc n=[UInt8.ofNat n]:=by rw[enc];rw[if_pos h]
theorem enc_more {n:Nat} (h:128≤n):enc n=UInt8.ofNat (n % 128+128) :: enc (n / 128):=by rw[enc];rw[if_neg (by omega)]
theorem enc_ne (n:Nat):enc n≠[]:=by
 by_cases h:n<128
 ·rw[enc_small h];simp
 ·rw[enc_more (by omega)];simp
theorem val_enc (n:Nat):val (enc n)=n:=by
 induction n using Nat.strongRecOn with
 | _ n ih=>
   by_cases h:n<128
   ·rw[enc_small h]
    simp only[val]
    rw[of_nat (by omega)];omega
   ·rw[enc_more (by omega)]
    simp only[val]
    rw[ih (n / 128) (by omega),of_nat (by omega)];omega
theorem enc_zero {n:Nat} (h:enc n=[0]):n=0:=by
 have:=val_enc n
 rw[h] at this
 rw[←this];rfl
theorem enc_canon (n:Nat):Canon (enc n):=by
 induction n using Nat.strongRecOn with
 | _ n ih=>
   by_cases h:n<128
   ·rw[enc_small h]
    show (UInt8.ofNat n).toNat<128
    rw[of_nat (by omega)];exact h
   ·rw[enc_more (by omega)]
    have h1:=ih (n / 128) (by omega)
    have h2:enc (n / 128)≠[0]:=fun e=>by have:=enc_zero e;omega
    revert h1 h2
    cases enc (n / 128) with
    | nil=>intro h1;exact absurd h1 (by simp[Canon])
    | cons d l=>
      intro h1 h2
      exact⟨by rw[of_nat (by omega)];omega,h2,h1⟩
theorem canon_enc:∀ (p:List UInt8),Canon p→enc (val p)=p
 | [],h=>h.elim
 | [c],h=>by
   have h:c.toNat<128:=h
   simp only[val]
   rw[show c.toNat % 128+128*0=c.toNat by omega,enc_small h]
   simp
 | c :: d :: l,h=>by
   obtain⟨h1,h2,h3⟩:=h
   have ih:=canon_enc (d :: l) h3
   have hc:c.toNat<256:=c.toNat_lt
   have hv:1≤val (d :: l):=by
    rcases Nat.eq_zero_or_pos (val (d :: l)) with h0|h0
    ·rw[h0,enc_small (by omega)] at ih
     exact absurd ih.symm h2
    ·exact h0
   show enc (c.toNat % 128+128*val (d :: l))=_
   generalize val (d :: l)=v at ih hv
   rw[enc_more (by omega),show (c.toNat % 128+128*v) / 128=v by omega,ih]
   congr 1
   rw[show (c.toNat % 128+128*v) % 128+128=c.toNat by omega]
   simp
theorem canon_prefix:∀ (p q l:List UInt8),Canon p→Canon q→p <+: l→q <+: l→p=q
 | [],_,_,h,_,_,_=>h.elim
 | _,[],_,_,h,_,_=>h.elim
 | c :: p,d :: q,l,hp,hq,h1,h2=>by
   obtain⟨r,rfl⟩:=h1
   rw[List.cons_append] at h2
   obtain⟨rfl,h3⟩:=List.cons_prefix_cons.1 h2
   have h1:p <+: p++r:=⟨r,rfl⟩
   cases p with
   | nil=>
     cases q with
     | nil=>rfl
     | cons e q=>exact absurd hq.1 (by have:d.toNat<128:=hp;omega)
   | cons e p=>
     cases q with
     | nil=>exact absurd hp.1 (by have:d.toNat<128:=hq;omega)
     | cons f q=>rw[canon_prefix (e :: p) (f :: q) (e :: p++r) hp.2.2 hq.2.2 h1 h3]
theorem enc_prefix {m n:Nat} {l:List UInt8} (h1:enc m <+: l) (h2:enc n <+: l):m=n:=by
 have:=canon_prefix _ _ l (enc_canon m) (enc_canon n) h1 h2
 rw[←val_enc m,this,val_enc]
theorem enc_length:∀ (k n:Nat),n<128 ^ (k+1)→(enc n).length≤k+1
 | 0,n,h=>by rw[enc_small (by simpa using h)];simp
 | k+1,n,h=>by
   by_cases hn:n<128
   ·rw[enc_small hn];simp
   ·rw[enc_more (by omega),List.length_cons]
    have:=enc_length k (n / 128) (by rw[Nat.pow_succ] at h;omega)
    omega
theorem enc_ten {n:Nat} (h:n<18446744073709551616):(enc n).length≤10:=enc_length 9 n (by omega)
theorem enc_pos (n:Nat):1≤(enc n).length:=by
 rcases Nat.eq_zero_or_pos (enc n).length with h|h
 ·exact absurd (List.eq_nil_of_length_eq_zero h) (enc_ne n)
 ·exact h
def Hi (l:List UInt8) (i:Nat):Prop:=∀ (j:Nat) (hj:j<l.length),j<i→128≤l[j].toNat
theorem canon_hi:∀ (p l:List UInt8) (i:Nat),Canon p→p <+: l→Hi l i→i<p.length
 | [],_,_,h,_,_=>h.elim
 | [c],l,i,h,⟨r,hr⟩,hi=>by
   rcases Nat.eq_zero_or_pos i with h0|h0
   ·subst h0;simp
   ·have:=hi 0 (by rw[←hr];simp) h0
    subst hr
    have hc:c.toNat<128:=h
    simp at this;omega
 | c :: d :: p,l,i,h,⟨r,hr⟩,hi=>by
   cases i with
   | zero=>simp
   | succ i=>
     have:=canon_hi (d :: p) (d :: p++r) i h.2.2 ⟨r,rfl⟩ (fun j hj hji=>by
      have:=hi (j+1) (by rw[←hr];simpa using hj) (by omega)
      subst hr
      simpa using this)
     simp at this ⊢;omega
theorem canon_end:∀ (p l:List UInt8) (i:Nat) (hi:i<l.length),Canon p→p <+: l→i<p.length→l[i].toNat<128→p.length=i+1
 | [],_,_,_,h,_,_,_=>h.elim
 | [c],_,i,_,_,_,h,_=>by simp at h;simp;omega
 | c :: d :: p,l,i,hi,h,⟨r,hr⟩,hip,hl=>by
   subst hr
   cases i with
   | zero=>have:=h.1;simp at hl;omega
   | succ i=>
     have:=canon_end (d :: p) (d :: p++r) i (by simpa using hi) h.2.2 ⟨r,rfl⟩ (by simpa using hip) (by simpa using hl)
     simp at this ⊢;omega
theorem val_take_succ:∀ (l:List UInt8) (i:Nat) (hi:i<l.length),val (l.take (i+1))=val (l.take i)+(l[i].toNat % 128)*128 ^ i
 | [],_,h=>by simp at h
 | c :: l,0,_=>by simp[val]
 | c :: l,i+1,h=>by
   have hl:i<l.length:=by simpa using h
   have ih:=val_take_succ l i hl
   rw[List.take_succ_cons,List.take_succ_cons]
   simp only[val,List.getElem_cons_succ]
   rw[ih,Nat.pow_succ,Nat.mul_add]
   have:128*(l[i].toNat % 128*128 ^ i)=l[i].toNat % 128*(128 ^ i*128):=by rw[Nat.mul_comm,Nat.mul_assoc]
   omega
theorem val_lt:∀ (l:List UInt8),val l<128 ^ l.length
 | []=>by simp[val]
 | c :: l=>by
   have:=val_lt l
   simp only[val,List.length_cons,Nat.pow_succ]
   omega
theorem val_take_lt (l:List UInt8) (i:Nat):val (l.take i)<128 ^ i:=by
 refine Nat.lt_of_lt_of_le (val_lt _) (Nat.pow_le_pow_right (by omega) ?_)
 rw[List.length_take];omega
theorem val_part:∀ (p l:List UInt8) (i:Nat) (hi:i<l.length),p <+: l→i<p.length→(l[i].toNat % 128)*128 ^ i≤val p
 | [],_,_,_,_,h=>by simp at h
 | c :: p,l,0,hi,⟨r,hr⟩,_=>by subst hr;simp[val]
 | c :: p,l,i+1,hi,⟨r,hr⟩,h=>by
   subst hr
   have hl:i<(p++r).length:=by simpa using hi
   have:=val_part p (p++r) i hl ⟨r,rfl⟩ (by simpa using h)
   simp only[val,List.cons_append,List.getElem_cons_succ,Nat.pow_succ]
   have e:(p++r)[i].toNat % 128*(128 ^ i*128)=128*((p++r)[i].toNat % 128*128 ^ i):=by rw[Nat.mul_comm 128,Nat.mul_assoc]
   omega
theorem canon_take:∀ (l:List UInt8) (i:Nat) (hi:i<l.length),Hi l i→l[i].toNat<128→(l[i]≠0∨i=0)→Canon (l.take (i+1))
 | [],_,h,_,_,_=>by simp at h
 | c :: l,0,_,_,h,_=>by simpa [Canon] using h
 | [c],i+1,h,_,_,_=>by simp at h
 | c :: d :: l,i+1,hi,hh,h,hz=>by
   have ih:=canon_take (d :: l) i (by simpa using hi) (fun j hj hji=>by have:=hh (j+1) (by simpa using hj) (by omega);simpa using this) (by simpa using h) (by
    rcases hz with hz|hz
    ·exact .inl (by simpa using hz)
    ·omega)
   have h0:=hh 0 (by simp) (by omega)
   rw[List.take_succ_cons]
   cases ht:(d :: l).take (i+1) with
   | nil=>simp at ht
   | cons e q=>
     rw[ht] at ih
     refine⟨by simpa using h0,fun he=>?_,ih⟩
     rw[he] at ht
     have hlen:=congrArg List.length ht
     rw[List.length_take,List.length_cons,List.length_cons,List.length_nil] at hlen
     rw[List.length_cons,List.length_cons] at hi
     have hi0:i=0:=by omega
     subst hi0
     rcases hz with hz|hz
     ·apply hz
      simp at ht ⊢
      exact ht
     ·omega
def GetIs (l:List UInt8) (n k:Nat):Prop:=(n<18446744073709551616∧enc n <+: l∧k=(enc n).length)∨((∀ m,m<18446744073709551616→¬ enc m <+: l)∧n=0∧k=0)
theorem GetIs.one {l:List UInt8} {n k n' k':Nat} (h:GetIs l n k) (h':GetIs l n' k'):n=n'∧k=k':=by
 rcases h with ⟨h1,h2,h3⟩|⟨h1,h2,h3⟩<;>rcases h' with ⟨g1,g2,g3⟩|⟨g1,g2,g3⟩
 ·have:=enc_prefix h2 g2
  subst this
  exact⟨rfl,by omega⟩
 ·exact absurd h2 (g1 _ h1)
 ·exact absurd g2 (h1 _ g1)
 ·omega
theorem GetIs.none {l:List UInt8} (h:∀ m,m<18446744073709551616→¬ enc m <+: l):GetIs l 0 0 := .inr ⟨h,rfl,rfl⟩
theorem GetIs.lt {l:List UInt8} {n k:Nat} (h:GetIs l n k):n<18446744073709551616∧k≤10∧k≤l.length:=by
 rcases h with ⟨h1,h2,h3⟩|⟨h1,h2,h3⟩
 ·exact⟨h1,by have:=enc_ten h1;omega,by have:=h2.length_le;omega⟩
 ·omega
theorem none_long {l:List UInt8} {i:Nat} (h:Hi l i) (hi:i=l.length∨10≤i):∀ m,m<18446744073709551616→¬ enc m <+: l:=fun m hm hp=>by
 have h1:=canon_hi _ l i (enc_canon m) hp h
 have h2:=hp.length_le
 have h3:=enc_ten hm
 omega
theorem none_great {l:List UInt8} {i:Nat} (hi:i<l.length) (h:Hi l i) (hg:18446744073709551616≤(l[i].toNat % 128)*128 ^ i):∀ m,m<18446744073709551616→¬ enc m <+: l:=fun m hm hp=>by
 have h1:=canon_hi _ l i (enc_canon m) hp h
 have h2:=val_part _ l i hi hp h1
 rw[val_enc] at h2
 omega
theorem enc_at {l:List UInt8} {i m:Nat} (hi:i<l.length) (h:Hi l i) (hl:l[i].toNat<128) (hp:enc m <+: l):enc m=l.take (i+1):=by
 have h1:=canon_hi _ l i (enc_canon m) hp h
 have h2:=canon_end _ l i hi (enc_canon m) hp h1 hl
 obtain⟨r,rfl⟩:=hp
 rw[←h2,List.take_left']
 rfl
theorem none_nought {l:List UInt8} {i:Nat} (hi:i<l.length) (h:Hi l i) (hz:l[i]=0) (h0:0<i):∀ m,m<18446744073709551616→¬ enc m <+: l:=fun m _ hp=>by
 have e:=enc_at hi h (by rw[hz];decide) hp
 have hc:=enc_canon m
 rw[e] at hc
 have key:∀ (l:List UInt8) (i:Nat) (hi:i<l.length),l[i]=0→0<i→¬ Canon (l.take (i+1)):=by
  intro l
  induction l with
  | nil=>intro i hi;simp at hi
  | cons c l ih=>
    intro i hi hz h0 hc
    cases i with
    | zero=>omega
    | succ i=>
      cases l with
      | nil=>simp at hi
      | cons d l=>
        rw[List.take_succ_cons,List.take_succ_cons] at hc
        cases i with
        | zero=>
          simp at hz
          subst hz
          exact hc.2.1 (by simp)
        | succ i=>
          refine ih (i+1) (by simpa using hi) (by simpa using hz) (by omega) ?_
          rw[List.take_succ_cons]
          exact hc.2.2
 exact key l i hi hz h0 hc
theorem some_here {l:List UInt8} {i:Nat} (hi:i<l.length) (h:Hi l i) (hl:l[i].toNat<128) (hz:l[i]≠0∨i=0) (hv:val (l.take (i+1))<18446744073709551616):GetIs l (val (l.take (i+1))) (i+1):=by
 have e:=canon_enc _ (canon_take l i hi h hl hz)
 refine .inl ⟨hv,by rw[e];exact List.take_prefix _ _,?_⟩
 rw[e,List.length_take];omega
theorem hi_succ {l:List UInt8} {i:Nat} (hi:i<l.length) (h:Hi l i) (hc:128≤l[i].toNat):Hi l (i+1):=fun j hj hji=>by
 by_cases he:j=i
 ·subst he;exact hc
 ·exact h j hj (by omega)
theorem u8_info:(Tryz.prog.info? 5).map (fun i=>(i.zero,i.size,i.bytes))=some (some (.int .u8 0),1,1):=by kernel_rfl
theorem info_parts {e size bytes:Nat} {z:Value} (h:(Tryz.prog.info? e).map (fun i=>(i.zero,i.size,i.bytes))=some (some z,size,bytes)):∃ i,Tryz.prog.info? e=some i∧i.zero=some z∧i.size=size∧i.bytes=bytes:=by
 cases hi:Tryz.prog.info? e with
 | none=>rw[hi] at h;cases h
 | some i=>rw[hi] at h;injection h with h;injection h with h1 h2;injection h2 with h2 h3;exact⟨i,rfl,h1,h2,h3⟩
theorem u8E:Elem Tryz.prog 65 5 1 1 (.int .u8 0):=⟨Tryz.underlying65,info_parts u8_info,rfl,by decide,by decide⟩
def New (w w':World) (b:Nat):Prop:=w.heap.size≤b∧b<w'.heap.size
theorem u8s_take (l:List UInt8) (k:Nat):u8s (l.take k)=(u8s l).take (k*1):=by unfold u8s;rw[List.map_take,Nat.mul_one]
theorem u8s_drop (l:List UInt8) (k:Nat):u8s (l.drop k)=(u8s l).drop (k*1):=by unfold u8s;rw[List.map_drop,Nat.mul_one]
theorem conv_is (w:World) {u:Value} {l:List UInt8} (h:IsBytes l u w):(convert 65 9 u).run Tryz.prog w=.ok (.string ⟨l.toArray⟩) w:=run_conv_is 65 9 5 Tryz.underlying65 Tryz.underlying5 Tryz.underlying9 w h
theorem conv_bytes (w:World) {B:Nat} {A:Option Addr} {n c:Nat} {l:List UInt8} (h:Bytes w B A n l):(convert 65 9 (.slice A n c)).run Tryz.prog w=.ok (.string ⟨l.toArray⟩) w:=run_conv_bytes 65 9 5 Tryz.underlying65 Tryz.underlying5 Tryz.underlying9 w h
theorem made_own (w:World):Own (w.alloc (.cells #[] 5)) (fun b=>b=w.heap.size) 5 1 (.slice (some ⟨w.heap.size,0,none⟩) 0 0) 0 []:=
 Own.of_row (World.ownsRow_made w #[] 0 (Nat.le_refl _) (by decide) rfl) (fun g hg=>by injection hg with hg;exact hg.symm)
theorem own_new {w w1:World} {v:Value} {n:Nat} {xs:List Value} (hO:Own w1 (Ext (fun b=>b=w.heap.size) (w.alloc (.cells #[] 5)) w1) 5 1 v n xs) (hj:Just (fun b=>b=w.heap.size) (w.alloc (.cells #[] 5)) w1):Own w1 (New w w1) 5 1 v n xs∧Grow w w1:=by
 have hs:w.heap.size<w1.heap.size:=by have:=hj.size;simp at this;omega
 refine⟨hO.mono (fun b hb=>?_),((Below.refl w.heap.size w).alloc (Nat.le_refl _) (.cells #[] 5)).trans (hj.below (B:=w.heap.size) (fun b hb=>by rw[hb];exact Nat.le_refl _) (by simp))⟩
 rcases hb with rfl|⟨h1,h2⟩
 ·exact⟨Nat.le_refl _,hs⟩
 ·simp at h1;exact⟨by omega,h2⟩
theorem own_more {w w1 w2:World} {e size n:Nat} {v:Value} {xs:List Value} (hg:Grow w w1) (hO:Own w2 (Ext (New w w1) w1 w2) e size v n xs) (hj:Just (New w w1) w1 w2):Own w2 (New w w2) e size v n xs∧Grow w w2:=by
 have h1:=hg.size
 have h2:=hj.size
 refine⟨hO.mono fun b hb=>?_,Below.trans hg (hj.below (B:=w.heap.size) (fun b hb=>hb.1) h1)⟩
 rcases hb with hb|hb
 ·exact⟨hb.1,by have:=hb.2;omega⟩
 ·exact⟨by have:=hb.1;omega,hb.2⟩
theorem own_more1 {w w1 w2:World} {e size n:Nat} {v:Value} {xs:List Value} {o:Obj} (hg:Grow w w1) (hO:Own w2 (Ext (New w w1) (w1.alloc o) w2) e size v n xs) (hj:Just (New w w1) (w1.alloc o) w2):Own w2 (New w w2) e size v n xs∧Grow w w2:=by
 have h1:=hg.size
 have h2:=hj.size
 simp at h2
 refine⟨hO.mono fun b hb=>?_,Below.trans hg (Below.trans ((Below.refl w1.heap.size w1).alloc (Nat.le_refl _) o |>.mono h1) (hj.below (B:=w.heap.size) (fun b hb=>hb.1) (by simp;omega)))⟩
 rcases hb with hb|hb
 ·exact⟨hb.1,by have:=hb.2;omega⟩
 ·have:=hb.1;simp at this;exact⟨by omega,hb.2⟩
theorem own_alloc {w w1:World} {e size n:Nat} {v:Value} {xs:List Value} (hO:Own w1 (New w w1) e size v n xs) (o:Obj):Own (w1.alloc o) (New w w1) e size v n xs:=
 hO.grow (fun b hb=>hb.2) ((Below.refl w1.heap.size w1).alloc (Nat.le_refl _) o)
theorem clone_any (w:World) (A:Option Addr) (n c:Nat) (l:List UInt8) (h:Bytes w w.heap.size A n l) (hn:n≤140737488355328) :
 Calls Tryz.prog 180 #[.slice A n c] w fun e w'=>∃ v,e=.returned v∧Own w' (New w w') 5 1 v n (u8s l)∧Grow w w':=by
 have hnil:=fun (w':World)=>Lib.run_eql_slice_nil (P:=Tryz.prog) w' 65 5 A n c 0 0 Tryz.underlying65
 cases A with
 | none=>
   have hn0:n=0:=by
    rcases Nat.eq_zero_or_pos n with h0|h0
    ·exact h0
    ·obtain⟨_,e,_⟩:=h.2 h0;cases e
   subst hn0
   obtain rfl:l=[]:=List.eq_nil_of_length_eq_zero h.len
   go_enter Tryz.func180,Tryz.ntmps180
   go_wp2_with fail
   go_ret
   exact⟨_,rfl,Own.nil,Grow.refl _⟩
 | some ad=>
   go_enter Tryz.func180,Tryz.ntmps180
   go_wp2_with (at_builtin;refine stay ?_)
   refine stay_out ?_
   refine wpList_own (V:=fun b=>b=w.heap.size) u8E _ rfl (.tmp 5) (.tmp 6) rfl (.slice (some ⟨w.heap.size,0,none⟩) 0 0) 0 [] rfl (made_own w) w.heap.size (some ad) n c (u8s l) rfl (Reads.alloc h (Nat.le_refl _) _) u8s_one (by omega) ?_
   intro v1 w1 hO1 hj1
   simp only[Nat.zero_add,List.nil_append] at hO1
   obtain⟨hO1,hg1⟩:=own_new hO1 hj1
   go_wp2_with fail
   go_ret
   exact⟨v1,rfl,hO1,hg1⟩
theorem clip_any (w:World) (A:Option Addr) (n c:Nat) (hn:n≤c) :
 Calls Tryz.prog 163 #[.slice A n c] w fun e w'=>e=.returned (.slice A n n)∧w=w':=by
 go_enter Tryz.func163,Tryz.ntmps163
 go_wp2_with fail
 go_ret
 exact⟨rfl,rfl⟩
theorem clip_own (w:World) (V:Nat→Prop) (v:Value) (n:Nat) (l:List UInt8) (h:Own w V 5 1 v n (u8s l)) :
 Calls Tryz.prog 163 #[v] w fun e w'=>∃ v',e=.returned v'∧w=w'∧Own w V 5 1 v' n (u8s l):=by
 obtain⟨A,c,rfl,hR,hn,hm⟩:=h.reads
 refine (clip_any w A n c hn).mono fun e w' ⟨he,hw⟩=>⟨_,he,hw,?_⟩
 have:=h.cut (Nat.le_refl n)
 rwa [List.take_of_length_le (by rw[h.1];omega)] at this
theorem or128_small:∀ x:Nat,x<256→bits .or .u8 (x:Int) 128=((x % 128+128:Nat):Int):=by decide +kernel
theorem or128 (m:Nat):bits .or .u8 ((m:Int) % 256) 128=((m % 128+128:Nat):Int):=by
 have:=or128_small (m % 256) (by omega)
 rw[show ((m % 256:Nat):Int)=(m:Int) % 256 by omega] at this
 rw[this]
 omega
theorem _root_.Go.Hop.Reads.cells_eq {w:World} {B size n:Nat} {A:Option Addr} {xs ys:List Value} (h:Reads w B size A n xs) (e:ys=xs):Reads w B size A n ys:=e▸h
theorem Put_any (w:World) (A:Option Addr) (n c:Nat) (l:List UInt8) (hb:Bytes w w.heap.size A n l) (hn:n≤1099511627776) (m:Nat) (hm:m<18446744073709551616) :
 Calls Tryz.prog 219 #[.slice A n c,.int .u64 (m:Int)] w fun e w'=>∃ v,e=.returned v∧Own w' (New w w') 5 1 v (n+(enc m).length) (u8s (l++enc m))∧Grow w w':=by
 have hlen:=enc_ten hm
 go_enter Tryz.func219,Tryz.ntmps219
 go_wp2_with (go_at_call 180;refine (clone_any _ A n c l hb (by omega)).mono ?_;rintro e w1 ⟨v1,rfl,hO1,hg1⟩)
 go_loopw [1,5] (fun mv v wr=>∃ (pre:List UInt8) (m':Nat),mv=.int .u64 (m':Int)∧m'<18446744073709551616∧pre++enc m'=enc m∧Own wr (New w wr) 5 1 v (n+pre.length) (u8s (l++pre))∧Grow w wr) (fun mv _ _=>(intOf mv).toNat)
 case atStart=>exact⟨[],m,rfl,hm,rfl,by simpa using hO1,hg1⟩
 case round=>
  obtain⟨pre,m',rfl,hm',hpre,hO,hg⟩:=hrel
  obtain⟨A1,c1,rfl,hR1,hn1,hm1⟩:=hO.reads
  have hpl:pre.length≤10:=by have:=congrArg List.length hpre;rw[List.length_append] at this;omega
  have HP:=Lib.hid hpre
  clear hpre
  by_cases hgo:128≤m'
  ·have eor:=or128 m'
   go_wp2_with (at_builtin;refine stay ?_)
   refine stay_out ?_
   refine wpList_own (V:=New w wr) u8E _ rfl (.tmp 10) (.tmp 14) rfl (.slice A1 (n+pre.length) c1) (n+pre.length) (u8s (l++pre)) rfl (own_alloc hO _) (wr.heap.size+1) (some ⟨wr.heap.size,0,none⟩) 1 1 (u8s [UInt8.ofNat (m' % 128+128)]) rfl (reads_laid wr _ 5 _ rfl _ rfl |>.cells_eq (by simp only[u8s,List.map_cons,List.map_nil];rw[of_nat (by omega)];push_cast;rfl)) u8s_one (by omega) ?_
   intro v3 w3 hO3 hj3
   rw[←u8s_append,List.append_assoc] at hO3
   obtain⟨hO3,hg3⟩:=own_more1 hg hO3 hj3
   clear hj3 hO hR1
   go_wp2_with fail
   go_roundw
   case rel=>exact⟨pre++[UInt8.ofNat (m' % 128+128)],m' / 128,by go_num,by omega,by rw[List.append_assoc,List.singleton_append,←enc_more hgo];exact HP.out,by rw[List.length_append,←Nat.add_assoc];exact hO3,hg3⟩
   case measure=>simp[intOf];omega
  ·go_wp2_with (at_builtin;refine stay ?_)
   refine stay_out ?_
   refine wpList_own (V:=New w wr) u8E _ rfl (.tmp 18) (.tmp 21) rfl (.slice A1 (n+pre.length) c1) (n+pre.length) (u8s (l++pre)) rfl (own_alloc hO _) (wr.heap.size+1) (some ⟨wr.heap.size,0,none⟩) 1 1 (u8s [UInt8.ofNat m']) rfl (reads_laid wr _ 5 _ rfl _ rfl |>.cells_eq (by simp only[u8s,List.map_cons,List.map_nil];rw[of_nat (by omega)])) u8s_one (by omega) ?_
   intro v3 w3 hO3 hj3
   rw[←u8s_append,List.append_assoc] at hO3
   obtain⟨hO3,hg3⟩:=own_more1 hg hO3 hj3
   have hP:=HP.out
   rw[enc_small (by omega)] at hP
   rw[hP] at hO3
   have hL:=congrArg List.length hP
   rw[List.length_append,List.length_singleton] at hL
   have hL':n+pre.length+1=n+(enc m).length:=by omega
   rw[hL'] at hO3
   clear hj3 hO hR1 hP hL hL'
   obtain⟨A3,c3,rfl,hR3,hn3,hm3⟩:=hO3.reads
   go_wp2_with (go_at_call 163;refine (clip_own _ _ _ _ _ hO3).mono ?_;rintro e w4 ⟨v4,rfl,rfl,hO4⟩)
   go_ret
   exact⟨v4,rfl,hO4,hg3⟩
theorem andNot128:∀ x:Nat,x<256→bits .andNot .u64 (x:Int) 128=((x % 128:Nat):Int):=by decide +kernel
theorem pow7 (i:Nat):(2:Int) ^ (i*7)=((128 ^ i:Nat):Int):=by
 rw[Nat.mul_comm,Int.pow_mul];push_cast;rfl
theorem shl_in (p i:Nat) (h:p*128 ^ i<18446744073709551616):IntKind.u64.wrap ((p:Int)*2 ^ (i*7))=((p*128 ^ i:Nat):Int):=by
 rw[pow7,←Int.natCast_mul,wrap_u64];omega
theorem shr_in (p i:Nat):((p*128 ^ i:Nat):Int) / 2 ^ (i*7)=(p:Int):=by
 rw[pow7,←Int.natCast_ediv,Nat.mul_div_cancel _ (Nat.pow_pos (by omega))]
theorem shl_out (p i:Nat) (h:¬ p*128 ^ i<18446744073709551616) (hi:i≤9) (hp:p<128):∃ q d:Nat,IntKind.u64.wrap ((p:Int)*2 ^ (i*7))=(q:Int)∧(q:Int) / 2 ^ (i*7)=(d:Int)∧d≠p:=by
 have h9:i=9:=by
  rcases Nat.lt_or_ge i 9 with h1|h1
  ·exfalso
   have:128 ^ i≤128 ^ 8:=Nat.pow_le_pow_right (by omega) (by omega)
   have h2:p*128 ^ i≤127*128 ^ 8:=Nat.mul_le_mul (by omega) this
   omega
  ·omega
 subst h9
 refine⟨p*128 ^ 9 % 18446744073709551616,p % 2,?_,?_,by omega⟩
 ·rw[pow7,←Int.natCast_mul,wrap_u64];omega
 ·rw[pow7];omega
theorem or_nat (a b:Nat) (ha:a<18446744073709551616) (hb:b<18446744073709551616):bits .or .u64 (a:Int) (b:Int)=((a ||| b:Nat):Int):=by
 show IntKind.u64.wrap ((BitVec.ofInt 64 (a:Int) ||| BitVec.ofInt 64 (b:Int)).toNat:Nat)=_
 rw[BitVec.toNat_or,BitVec.toNat_ofInt,BitVec.toNat_ofInt,wrap_u64]
 rw[show ((a:Int) % ((2 ^ 64:Nat):Int)).toNat=a by omega,show ((b:Int) % ((2 ^ 64:Nat):Int)).toNat=b by omega]
 have:=Nat.or_lt_two_pow (n:=64) ha hb
 omega
theorem or_lt (a p i:Nat) (ha:a<128 ^ i) (h:p*128 ^ i<18446744073709551616) (hi:i≤9):a+p*128 ^ i<18446744073709551616:=by
 have h64:(18446744073709551616:Nat)=2 ^ (64-7*i)*128 ^ i:=by
  rw[show (128:Nat)=2 ^ 7 by rfl,←Nat.pow_mul,←Nat.pow_add,show 64-7*i+7*i=64 by omega]
 rw[h64] at h ⊢
 have hp:p<2 ^ (64-7*i):=Nat.lt_of_mul_lt_mul_right h
 calc a+p*128 ^ i<128 ^ i+p*128 ^ i:=by omega
  _=(p+1)*128 ^ i:=by rw[Nat.add_mul];omega
  _≤2 ^ (64-7*i)*128 ^ i:=Nat.mul_le_mul_right _ hp
theorem or_in (a p i:Nat) (ha:a<128 ^ i) (h:p*128 ^ i<18446744073709551616) (hi:i≤9) (_hp:p<128):bits .or .u64 (a:Int) ((p*128 ^ i:Nat):Int)=((a+p*128 ^ i:Nat):Int):=by
 have h1:=or_lt a p i ha h hi
 rw[or_nat a _ (by omega) h]
 have hpow:(128:Nat) ^ i=2 ^ (7*i):=by rw[Nat.pow_mul]
 rw[hpow] at ha ⊢
 have:=Nat.two_pow_add_eq_or_of_lt ha p
 rw[Nat.mul_comm p,Nat.or_comm,←this,Nat.add_comm]
set_option maxHeartbeats 1000000 in
theorem Get_short (w:World) (B:Nat) (A:Option Addr) (n c:Nat) (l:List UInt8) (hb:Bytes w B A n l) (hnm:n≤maxLen) (hn:n<10) :
 Calls Tryz.prog 179 #[.slice A n c] w fun e w'=>∃ v k:Nat,GetIs l v k∧e=.returned (.tuple #[.int .u64 (v:Int),.int .i64 (k:Int)])∧w=w':=by
 have hlen:=hb.len
 unfold maxLen at hnm
 go_enter Tryz.func179,Tryz.ntmps179
 go_wp2_with fail
 go_loopw [4,11] (fun av iv wr=>∃ i:Nat,i≤n∧iv=.int .i64 i∧av=.int .u64 (val (l.take i):Int)∧Hi l i∧wr=w) (fun _ iv _=>n-(intOf iv).toNat)
 case atStart=>exact⟨0,by omega,rfl,rfl,fun j hj h=>by omega,rfl⟩
 case round=>
  obtain⟨i,hin,rfl,rfl,hhi,rfl⟩:=hrel
  by_cases hi:i<n
  ·obtain⟨ad,hil,rfl,hcell⟩:=hb.at_ (show i<n by omega)
   have hc:=l[i].toNat_lt
   obtain⟨x,HX⟩:∃ x:Nat,Hid (x=l[i].toNat):=⟨l[i].toNat,rfl⟩
   rw[←HX.out] at hcell hc
   have ean:=andNot128 x (by omega)
   obtain⟨p,HPX⟩:∃ p:Nat,Hid (p=x % 128):=⟨_,rfl⟩
   have hp:p<128:=by have:=HPX.out;omega
   rw[←HPX.out] at ean
   have hv:=val_take_succ l i hil
   rw[←HX.out,←HPX.out] at hv
   have hvl:=val_take_lt l i
   obtain⟨a,HA⟩:∃ a:Nat,Hid (a=val (l.take i)):=⟨_,rfl⟩
   obtain⟨b,HB⟩:∃ b:Nat,Hid (b=val (l.take (i+1))):=⟨_,rfl⟩
   rw[←HA.out] at hv hvl
   rw[←HB.out] at hv
   rw[←HA.out]
   have HHI:=Lib.hid hhi
   clear hhi
   by_cases hov:p*128 ^ i<18446744073709551616
   ·have ew:=shl_in p i hov
    obtain⟨q,HQ⟩:∃ q:Nat,Hid (q=p*128 ^ i):=⟨_,rfl⟩
    have ed:=shr_in p i
    rw[←HQ.out] at ew ed hv hov
    have eo:bits .or .u64 (a:Int) (q:Int)=(b:Int):=by
     rw[hv,HQ.out]
     exact or_in a p i hvl (by rw[←HQ.out];exact hov) (show i≤9 by omega) hp
    have hbl:b<18446744073709551616:=by
     have:=or_lt a p i hvl (by rw[←HQ.out];exact hov) (show i≤9 by omega)
     rw[←HQ.out] at this
     omega
    clear hv hvl
    by_cases hx:128≤x
    ·go_wp2_with fail
     go_roundw
     case rel=>exact⟨i+1,by omega,by go_num,by rw[HB.out],hi_succ hil HHI.out (by rw[←HX.out];exact hx),trivial⟩
     case measure=>simp[intOf];omega
    ·by_cases hz:x≤0∧0<i
     ·obtain⟨hz,h0⟩:=hz
      have hz':l[i]=0:=by
       have:=HX.out
       apply UInt8.toNat_inj.1
       rw[←this,show x=0 by omega];rfl
      go_wp2_with fail
      go_ret2
      exact⟨0,0,GetIs.none (none_nought hil HHI.out hz' h0),rfl,rfl⟩
     ·have hG:GetIs l b (i+1):=by
       rw[HB.out]
       refine some_here hil HHI.out (by rw[←HX.out];omega) ?_ (by rw[←HB.out];exact hbl)
       by_cases h0:i=0
       ·exact .inr h0
       ·refine .inl fun e=>hz ⟨?_,by omega⟩
        have:x=0:=by rw[HX.out,e];rfl
        omega
      by_cases hx0:x≤0
      ·have hi0:i≤0:=by omega
       clear hz
       go_wp2_with fail
       go_ret2
       exact⟨b,i+1,hG,by push_cast;rfl,rfl⟩
      ·clear hz
       go_wp2_with fail
       go_ret2
       exact⟨b,i+1,hG,by push_cast;rfl,rfl⟩
   ·obtain⟨q,d,ew,ed,hd⟩:=shl_out p i (by omega) (by omega) hp
    go_wp2_with fail
    go_ret2
    refine⟨0,0,GetIs.none (none_great hil HHI.out ?_),rfl,rfl⟩
    rw[←HX.out,←HPX.out];omega
  ·have hi':i=n:=by omega
   have HHI:=Lib.hid hhi
   clear hhi
   obtain⟨a,HA⟩:∃ a:Nat,Hid (a=val (l.take i)):=⟨_,rfl⟩
   rw[←HA.out]
   subst hi'
   go_wp2_with fail
   go_ret2
   exact⟨0,0,GetIs.none (none_long HHI.out (by omega)),rfl,rfl⟩
set_option maxHeartbeats 1000000 in
theorem Get_long (w:World) (B:Nat) (A:Option Addr) (n c:Nat) (l:List UInt8) (hb:Bytes w B A n l) (hnm:n≤maxLen) (hn:10<n) :
 Calls Tryz.prog 179 #[.slice A n c] w fun e w'=>∃ v k:Nat,GetIs l v k∧e=.returned (.tuple #[.int .u64 (v:Int),.int .i64 (k:Int)])∧w=w':=by
 have hlen:=hb.len
 unfold maxLen at hnm
 go_enter Tryz.func179,Tryz.ntmps179
 go_wp2_with fail
 go_loopw [4,11] (fun av iv wr=>∃ i:Nat,i≤10∧iv=.int .i64 i∧av=.int .u64 (val (l.take i):Int)∧Hi l i∧wr=w) (fun _ iv _=>10-(intOf iv).toNat)
 case atStart=>exact⟨0,by omega,rfl,rfl,fun j hj h=>by omega,rfl⟩
 case round=>
  obtain⟨i,hin,rfl,rfl,hhi,rfl⟩:=hrel
  by_cases hi:i<10
  ·obtain⟨ad,hil,rfl,hcell⟩:=hb.at_ (show i<n by omega)
   have hc:=l[i].toNat_lt
   obtain⟨x,HX⟩:∃ x:Nat,Hid (x=l[i].toNat):=⟨l[i].toNat,rfl⟩
   rw[←HX.out] at hcell hc
   have ean:=andNot128 x (by omega)
   obtain⟨p,HPX⟩:∃ p:Nat,Hid (p=x % 128):=⟨_,rfl⟩
   have hp:p<128:=by have:=HPX.out;omega
   rw[←HPX.out] at ean
   have hv:=val_take_succ l i hil
   rw[←HX.out,←HPX.out] at hv
   have hvl:=val_take_lt l i
   obtain⟨a,HA⟩:∃ a:Nat,Hid (a=val (l.take i)):=⟨_,rfl⟩
   obtain⟨b,HB⟩:∃ b:Nat,Hid (b=val (l.take (i+1))):=⟨_,rfl⟩
   rw[←HA.out] at hv hvl
   rw[←HB.out] at hv
   rw[←HA.out]
   have HHI:=Lib.hid hhi
   clear hhi
   by_cases hov:p*128 ^ i<18446744073709551616
   ·have ew:=shl_in p i hov
    obtain⟨q,HQ⟩:∃ q:Nat,Hid (q=p*128 ^ i):=⟨_,rfl⟩
    have ed:=shr_in p i
    rw[←HQ.out] at ew ed hv hov
    have eo:bits .or .u64 (a:Int) (q:Int)=(b:Int):=by
     rw[hv,HQ.out]
     exact or_in a p i hvl (by rw[←HQ.out];exact hov) (show i≤9 by omega) hp
    have hbl:b<18446744073709551616:=by
     have:=or_lt a p i hvl (by rw[←HQ.out];exact hov) (show i≤9 by omega)
     rw[←HQ.out] at this
     omega
    clear hv hvl
    by_cases hx:128≤x
    ·go_wp2_with fail
     go_roundw
     case rel=>exact⟨i+1,by omega,by go_num,by rw[HB.out],hi_succ hil HHI.out (by rw[←HX.out];exact hx),trivial⟩
     case measure=>simp[intOf];omega
    ·by_cases hz:x≤0∧0<i
     ·obtain⟨hz,h0⟩:=hz
      have hz':l[i]=0:=by
       have:=HX.out
       apply UInt8.toNat_inj.1
       rw[←this,show x=0 by omega];rfl
      go_wp2_with fail
      go_ret2
      exact⟨0,0,GetIs.none (none_nought hil HHI.out hz' h0),rfl,rfl⟩
     ·have hG:GetIs l b (i+1):=by
       rw[HB.out]
       refine some_here hil HHI.out (by rw[←HX.out];omega) ?_ (by rw[←HB.out];exact hbl)
       by_cases h0:i=0
       ·exact .inr h0
       ·refine .inl fun e=>hz ⟨?_,by omega⟩
        have:x=0:=by rw[HX.out,e];rfl
        omega
      by_cases hx0:x≤0
      ·have hi0:i≤0:=by omega
       clear hz
       go_wp2_with fail
       go_ret2
       exact⟨b,i+1,hG,by push_cast;rfl,rfl⟩
      ·clear hz
       go_wp2_with fail
       go_ret2
       exact⟨b,i+1,hG,by push_cast;rfl,rfl⟩
   ·obtain⟨q,d,ew,ed,hd⟩:=shl_out p i (by omega) (by omega) hp
    go_wp2_with fail
    go_ret2
    refine⟨0,0,GetIs.none (none_great hil HHI.out ?_),rfl,rfl⟩
    rw[←HX.out,←HPX.out];omega
  ·have hi':i=10:=by omega
   have HHI:=Lib.hid hhi
   clear hhi
   obtain⟨a,HA⟩:∃ a:Nat,Hid (a=val (l.take i)):=⟨_,rfl⟩
   rw[←HA.out]
   subst hi'
   go_wp2_with fail
   go_ret2
   exact⟨0,0,GetIs.none (none_long HHI.out (by omega)),rfl,rfl⟩
set_option maxHeartbeats 1000000 in
theorem Get_ten (w:World) (B:Nat) (A:Option Addr) (n c:Nat) (l:List UInt8) (hb:Bytes w B A n l) (hnm:n≤maxLen) (hn:n=10) :
 Calls Tryz.prog 179 #[.slice A n c] w fun e w'=>∃ v k:Nat,GetIs l v k∧e=.returned (.tuple #[.int .u64 (v:Int),.int .i64 (k:Int)])∧w=w':=by
 have hlen:=hb.len
 subst hn
 clear hnm
 go_enter Tryz.func179,Tryz.ntmps179
 go_wp2_with fail
 go_loopw [4,11] (fun av iv wr=>∃ i:Nat,i≤10∧iv=.int .i64 i∧av=.int .u64 (val (l.take i):Int)∧Hi l i∧wr=w) (fun _ iv _=>10-(intOf iv).toNat)
 case atStart=>exact⟨0,by omega,rfl,rfl,fun j hj h=>by omega,rfl⟩
 case round=>
  obtain⟨i,hin,rfl,rfl,hhi,rfl⟩:=hrel
  by_cases hi:i<10
  ·obtain⟨ad,hil,rfl,hcell⟩:=hb.at_ (show i<10 by omega)
   have hc:=l[i].toNat_lt
   obtain⟨x,HX⟩:∃ x:Nat,Hid (x=l[i].toNat):=⟨l[i].toNat,rfl⟩
   rw[←HX.out] at hcell hc
   have ean:=andNot128 x (by omega)
   obtain⟨p,HPX⟩:∃ p:Nat,Hid (p=x % 128):=⟨_,rfl⟩
   have hp:p<128:=by have:=HPX.out;omega
   rw[←HPX.out] at ean
   have hv:=val_take_succ l i hil
   rw[←HX.out,←HPX.out] at hv
   have hvl:=val_take_lt l i
   obtain⟨a,HA⟩:∃ a:Nat,Hid (a=val (l.take i)):=⟨_,rfl⟩
   obtain⟨b,HB⟩:∃ b:Nat,Hid (b=val (l.take (i+1))):=⟨_,rfl⟩
   rw[←HA.out] at hv hvl
   rw[←HB.out] at hv
   rw[←HA.out]
   have HHI:=Lib.hid hhi
   clear hhi
   by_cases hov:p*128 ^ i<18446744073709551616
   ·have ew:=shl_in p i hov
    obtain⟨q,HQ⟩:∃ q:Nat,Hid (q=p*128 ^ i):=⟨_,rfl⟩
    have ed:=shr_in p i
    rw[←HQ.out] at ew ed hv hov
    have eo:bits .or .u64 (a:Int) (q:Int)=(b:Int):=by
     rw[hv,HQ.out]
     exact or_in a p i hvl (by rw[←HQ.out];exact hov) (show i≤9 by omega) hp
    have hbl:b<18446744073709551616:=by
     have:=or_lt a p i hvl (by rw[←HQ.out];exact hov) (show i≤9 by omega)
     rw[←HQ.out] at this
     omega
    clear hv hvl
    by_cases hx:128≤x
    ·go_wp2_with fail
     go_roundw
     case rel=>exact⟨i+1,by omega,by go_num,by rw[HB.out],hi_succ hil HHI.out (by rw[←HX.out];exact hx),trivial⟩
     case measure=>simp[intOf];omega
    ·by_cases hz:x≤0∧0<i
     ·obtain⟨hz,h0⟩:=hz
      have hz':l[i]=0:=by
       have:=HX.out
       apply UInt8.toNat_inj.1
       rw[←this,show x=0 by omega];rfl
      go_wp2_with fail
      go_ret2
      exact⟨0,0,GetIs.none (none_nought hil HHI.out hz' h0),rfl,rfl⟩
     ·have hG:GetIs l b (i+1):=by
       rw[HB.out]
       refine some_here hil HHI.out (by rw[←HX.out];omega) ?_ (by rw[←HB.out];exact hbl)
       by_cases h0:i=0
       ·exact .inr h0
       ·refine .inl fun e=>hz ⟨?_,by omega⟩
        have:x=0:=by rw[HX.out,e];rfl
        omega
      by_cases hx0:x≤0
      ·have hi0:i≤0:=by omega
       clear hz
       go_wp2_with fail
       go_ret2
       exact⟨b,i+1,hG,by push_cast;rfl,rfl⟩
      ·clear hz
       go_wp2_with fail
       go_ret2
       exact⟨b,i+1,hG,by push_cast;rfl,rfl⟩
   ·obtain⟨q,d,ew,ed,hd⟩:=shl_out p i (by omega) (by omega) hp
    go_wp2_with fail
    go_ret2
    refine⟨0,0,GetIs.none (none_great hil HHI.out ?_),rfl,rfl⟩
    rw[←HX.out,←HPX.out];omega
  ·have hi':i=10:=by omega
   have HHI:=Lib.hid hhi
   clear hhi
   obtain⟨a,HA⟩:∃ a:Nat,Hid (a=val (l.take i)):=⟨_,rfl⟩
   rw[←HA.out]
   subst hi'
   go_wp2_with fail
   go_ret2
   exact⟨0,0,GetIs.none (none_long HHI.out (by omega)),rfl,rfl⟩
theorem Get_any (w:World) (B:Nat) (A:Option Addr) (n c:Nat) (l:List UInt8) (hb:Bytes w B A n l) (hnm:n≤maxLen) :
 Calls Tryz.prog 179 #[.slice A n c] w fun e w'=>∃ v k:Nat,GetIs l v k∧e=.returned (.tuple #[.int .u64 (v:Int),.int .i64 (k:Int)])∧w=w':=by
 by_cases h:n<10
 ·exact Get_short w B A n c l hb hnm h
 ·by_cases h':10<n
  ·exact Get_long w B A n c l hb hnm h'
  ·exact Get_ten w B A n c l hb hnm (by omega)
end Go.Proofs.YtmijcbfgfkeodaaGreatDoor.V
end
section
namespace Go.Hop
open Go.RowKit Go.Lib
theorem strCells_u8s (s:ByteArray):strCells s=u8s s.data.toList:=by unfold strCells u8s;rfl
section
variable {P:Program} {t e u:TypeId} {V:Nat→Prop}
theorem run_append_Own_str (E:Elem P t e 1 1 (.int .u8 0)) (hu:P.underlying u=some .string) (w:World) (ty:Nat) (v:Value) (n:Nat) (xs:List Value) (hown:Own w V e 1 v n xs) (s:ByteArray)
 (hbytes:n+s.size≤140737488355328) :
 ∃ v' w',(Builtin.append_ #[t,u] ty #[v,.string s]).run P w=.ok v' w'∧Own w' (Ext V w w') e 1 v' (n+s.size) (xs++u8s s.data.toList)∧Just V w w':=by
 obtain⟨i,hi,hz,hs,hb⟩:=E.info
 have hsrc:Src P i.size u (.string s) s.size (u8s s.data.toList) w:=by rw[hs];exact Src.ofString w hu s
 have hxl:xs.length=n:=by have:=hown.1;omega
 have hnl:(u8s s.data.toList).length=s.size:=by have:=hsrc.newsLen;rw[hs] at this;omega
 have grow:∀ (ao:Option Addr) (cap:Nat),v=.slice ao n cap→cap<n+s.size→(Builtin.firstCells i.size n (.slice ao n cap)).run P w.drew=.ok xs.toArray w.drew→
  ∃ v' w',(Builtin.append_ #[t,u] ty #[v,.string s]).run P w=.ok v' w'∧Own w' (Ext V w w') e 1 v' (n+s.size) (xs++u8s s.data.toList)∧Just V w w':=by
  rintro ao cap rfl hg hold
  have h63:n+s.size≤maxLen:=by simp only[maxLen];omega
  have hrun:=run_append_grow_src (P:=P) w t u ty e i (.int .u8 0) E.und hi hz ao n cap xs hold (.string s) s.size (u8s s.data.toList) hsrc hg (by omega) (growslice_fits hg (by rw[hb];omega))
  have hge:=grownCap_ge w (n+s.size) cap e
  have hcm:grownCap w (n+s.size) cap e≤maxLen:=grownCap_le_maxLen w (n+s.size) cap e h63
  refine⟨_,_,hrun,⟨by rw[List.length_append];omega,.inr ⟨w.heap.size,_,_,rfl,.inr ⟨Nat.le_refl _,by simp⟩,heap_alloc_new w.drew _,hge,hcm,.inl ?_,?_⟩⟩,⟨rfl,rfl,rfl,by simp,fun k hk _=>heap_alloc_old w.drew _ hk⟩⟩
  ·have hz1:(Value.int IntKind.u8 0).cells.size=1:=rfl
   simp only[Array.size_append,List.size_toArray,size_zeroCells,hz1,List.length_append,hxl,hnl]
   omega
  ·have hl:(xs++u8s s.data.toList).length=(n+s.size)*1:=by rw[List.length_append];omega
   rw[Array.toList_append,List.toList_toArray,←hl]
   exact List.take_left
 by_cases hm:s.size=0
 ·have hn:u8s s.data.toList=[]:=List.eq_nil_of_length_eq_zero (by omega)
  rw[hn,hm] at hsrc
  obtain⟨A,c,rfl,_,hnc,_⟩:=hown.reads
  refine⟨_,w,run_append_nothing (P:=P) w t u ty e i E.und hi A n c hnc (.string s) hsrc,?_,Just.of_grow (Grow.refl w)⟩
  rw[hn,hm,List.append_nil]
  exact hown.mono fun b hb => .inl hb
 ·rcases hown.2 with ⟨hv,h0⟩|⟨g,cap,cur,hv,hV,hg,hnc,hcm,hsz,htk⟩
  ·subst h0
   obtain rfl:xs=[]:=List.eq_nil_of_length_eq_zero hxl
   exact grow none 0 hv (by omega) (run_firstCells_none (P:=P) w.drew i.size 0 0 0)
  ·by_cases hroom:n+s.size≤cap
   ·have hcs:cur.size=cap:=by
     rcases hsz with h|⟨h,_⟩
     ·omega
     ·omega
    have hr:=run_append_room_string (P:=P) w t u ty e i E.und hu hi hs g n cap cur hg s hroom (by omega)
    subst hv
    refine⟨_,_,hr,⟨by rw[List.length_append];omega,.inr ⟨g,cap,_,rfl,.inl hV,setRow_heap w g cur _ e _ hg,hroom,hcm,.inl ?_,?_⟩⟩,⟨rfl,rfl,rfl,by simp,fun k _ hk=>setRow_other w g k _ (fun e=>hk (by rw[e];exact hV))⟩⟩
    ·simp only[List.size_toArray,List.length_append,List.length_take,List.length_drop,Array.length_toList,strCells_length]
     omega
    ·have ht':cur.toList.take n=xs:=by simpa using htk
     have hl:(xs++strCells s).length=(n+s.size)*1:=by rw[List.length_append,hxl,strCells_length,Nat.mul_one]
     rw[List.toList_toArray,ht',←hl,strCells_u8s]
     exact List.take_left
   ·refine grow (some ⟨g,0,none⟩) cap hv (by omega) ?_
    obtain⟨A',c',hv',hrd,_,_⟩:=hown.reads
    refine run_firstCells_some (P:=P) w.drew i.size n ⟨g,0,none⟩ n cap xs (by rw[hs];exact hown.1) fun j u' hu'=>?_
    have hn0:0<n:=by
     rcases Nat.eq_zero_or_pos n with h0|h0
     ·rw[List.eq_nil_of_length_eq_zero (show xs.length=0 by omega)] at hu';simp at hu'
     ·exact h0
    obtain⟨ad',e',_,hc'⟩:=hrd.2 hn0
    rw[hv] at hv'
    injection hv' with hv'
    rw[←hv'] at e';injection e' with e'
    rw[e'];exact hc' j u' hu'
theorem wpList_own_str (E:Elem P t e 1 1 (.int .u8 0)) (hu:P.underlying u=some .string) (w:World) {ops:Array Oper} {rest:List Oper} {o:Oper} {a:Act} {Q:Exit→Act→World→Prop} (hw:Region.wanted o (yielded ops a.tmps)=true) (s x:Operand)
 (ho:o.op=.call { callee := .builtin .append,args:=#[s,x],argTypes:=#[t,u] })
 (v:Value) (n:Nat) (xs:List Value) (hs:a.eval s=v) (hown:Own w V e 1 v n xs)
 (str:ByteArray) (hx:a.eval x=.string str) (hbytes:n+str.size≤140737488355328)
 (h:∀ v' w',Own w' (Ext V w w') e 1 v' (n+str.size) (xs++u8s str.data.toList)→Just V w w'→wpList P ops Q rest (a.put o.dst v') w') :
 wpList P ops Q (o :: rest) a w:=by
 obtain⟨v',w',hrun,h2,h3⟩:=run_append_Own_str E hu w o.type v n xs hown str hbytes
 unfold wpList
 rw[if_pos hw]
 refine .inl ?_
 unfold Oper.wp execOp
 simp only[ho,resolve,invoke,builtin,Sem.run_bind,Sem.run_pure,Result.andThen_ok,List.map_toArray,List.map_cons,List.map_nil,hs,hx,hrun]
 exact h v' w' h2 h3
end
end Go.Hop
end
section
namespace Go.Proofs.YtmijcbfgfkeodaaGreatDoor.V
open Go.RowKit Go.Hop
theorem Text_any (w:World) (A:Option Addr) (n c:Nat) (l:List UInt8) (hb:Bytes w w.heap.size A n l) (hn:n≤1099511627776) (s:ByteArray) (hs:s.size≤1099511627776) :
 Calls Tryz.prog 221 #[.slice A n c,.string s] w fun e w'=>∃ v,e=.returned v∧Own w' (New w w') 5 1 v (n+(enc s.size).length+s.size) (u8s (l++enc s.size++s.data.toList))∧Grow w w':=by
 have hlen:=enc_ten (n:=s.size) (by omega)
 have HLen:=Lib.hid hlen
 clear hlen
 go_enter Tryz.func221,Tryz.ntmps221
 go_wp2_with (first
  | (go_at_call 219;refine (Put_any _ A n c l hb hn s.size (by omega)).mono ?_;rintro e w1 ⟨v1,rfl,hO1,hg1⟩)
  | (at_builtin;refine stay ?_))
 refine stay_out ?_
 refine wpList_own_str u8E Tryz.underlying9 _ rfl (.tmp 9) (.tmp 10) rfl v1 _ _ rfl hO1 s rfl (by have:=HLen.out;omega) ?_
 intro v2 w2 hO2 hj2
 rw[←u8s_append] at hO2
 obtain⟨hO2,hg2⟩:=own_more hg1 hO2 hj2
 clear hj2 hO1
 go_wp2_with (go_at_call 163;refine (clip_own _ _ _ _ _ hO2).mono ?_;rintro e w4 ⟨v4,rfl,rfl,hO4⟩)
 go_ret
 exact⟨v4,rfl,hO4,hg2⟩
end Go.Proofs.YtmijcbfgfkeodaaGreatDoor.V
end
