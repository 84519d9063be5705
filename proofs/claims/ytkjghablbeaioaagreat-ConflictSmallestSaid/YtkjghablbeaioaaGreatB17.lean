import Derived.Test.YtkjghablbeaioaaGreatB0
import Derived.Test.YtkjghablbeaioaaGreatB1
import Derived.Test.YtkjghablbeaioaaGreatB2
import Derived.Test.YtkjghablbeaioaaGreatB5
import Derived.Test.YtkjghablbeaioaaGreatB8
import Derived.Test.YtkjghablbeaioaaGreatB14
import Derived.Test.YtkjghablbeaioaaGreatB15
import Derived.Test.YtkjghablbeaioaaGreatB16
namespace Go.Proofs.YtkjghablbeaioaaGreat.B
open Go.RowKit Go.Proofs.YtkjghablbeaioaaGreatW.PrintWords Go.Proofs.YtkjghablbeaioaaGreatW.PrintLast Go.Proofs.YtkjghablbeaioaaGreatW.PrintMore
attribute [local go_sem] max2_int min2_int max_two min_two max_three min_three max_four min_four Tryz.underlying23 Tryz.underlying24 Tryz.underlying26 Tryz.underlying28 Tryz.underlying96
set_option linter.unusedVariables false
set_option linter.unusedSimpArgs false
attribute [local go_sem high] eqA96
def ancepsref42_Smallest.l0:Nat→List (S49)→Int→List Int→List (S96)→List Int→Option (List Int×(List (S96))×List Int×Int)
 | 0,_,_,_,_,_=>none
 | k+1,x0,x7,x65,x67,x55=>if x7<(x65.length:Int) then ((ancepsref42_Without.f x65 x7).bind fun t73=>((ancepsref42_System.f k x0 t73).bind fun t78=>((ancepsref40_First.f k t78).bind fun bt79=>(if x55.length<17592186044416 then (ancepsref42_Smallest.l0 k x0 (wrap64 (x7+1)) x65 x67 (x55++[bt79.1])) else (none))))) else (some (x65,x67,x55,0))
def ancepsref42_Smallest.f (k:Nat) (l0:List (S49)):Option (List Int×(List (S96))×List Int×Int):=(ancepsref42_Cores.f k l0).bind fun bt58=>(if bt58.2=0 then (if (bt58.1.length:Int)=0 then (some (([]:List Int),([]:List (S96)),([]:List Int),11)) else (if 0<(bt58.1.length:Int) then ((ancepsref42_System.f k l0 (rd_L1 bt58.1 0)).bind fun t80=>((ancepsref40_Refute.f k t80).bind fun bt66=>(if bt66.2=0 then (ancepsref42_Smallest.l0 k l0 0 (rd_L1 bt58.1 0) bt66.1 ([]:List Int)) else (some (([]:List Int),([]:List (S96)),([]:List Int),bt66.2))))) else (none))) else (some (([]:List Int),([]:List (S96)),([]:List Int),bt58.2)))
set_option maxHeartbeats 8000000 in
set_option maxRecDepth 100000 in
theorem ancepsref42_Smallest.calls (k:Nat) (P0_:Nat→Prop) (A0:Option Addr) (c0:Nat) (l0:List (S49)) (r1:List Int) (r2:List (S96)) (r3:List Int) (r4:Int) (w:World) (hs0:Kd.V k49 49 w w.heap.size (fun k_=>P0_ k_) (.slice A0 l0.length c0) l0) (h:ancepsref42_Smallest.f k l0=some (r1,r2,r3,r4)) :
  Calls Tryz.prog 19 #[.slice A0 l0.length c0] w fun e w'=>∃ v0_ v1_ v2_:Value,e=.returned (.tuple #[.agg #[v0_,v1_,v2_],.int .i64 r4])∧Kd.V (Kd.int .i64) 3 w' w.heap.size (fun k_=>(P0_ k_∨w.heap.size≤k_)∧some k_≠(v1_:Value).ownBlock∧some k_≠(v2_:Value).ownBlock) v0_ r1∧Kd.R k96 96 w' w.heap.size (fun k_=>(w.heap.size≤k_)) v1_ r2∧Kd.R (Kd.int .i64) 3 w' w.heap.size (fun k_=>(w.heap.size≤k_)) v2_ r3∧Below w.heap.size w w':=by
 have HO0:=zA (show Kd.V k49 49 w w.heap.size (fun k_=>(P0_ k_∨w.heap.size≤k_)) (.slice A0 l0.length c0) l0 from Kd.V_mono hs0 (fun k_ hk=>.inl hk));have HB:=zA (Below.refl w.heap.size w);have H:((ancepsref42_Cores.f k l0).bind fun bt58=>(if bt58.2=0 then (if (bt58.1.length:Int)=0 then (some (([]:List Int),([]:List (S96)),([]:List Int),11)) else (if 0<(bt58.1.length:Int) then ((ancepsref42_System.f k l0 (rd_L1 bt58.1 0)).bind fun t80=>((ancepsref40_Refute.f k t80).bind fun bt66=>(if bt66.2=0 then (ancepsref42_Smallest.l0 k l0 0 (rd_L1 bt58.1 0) bt66.1 ([]:List Int)) else (some (([]:List Int),([]:List (S96)),([]:List Int),bt66.2))))) else (none))) else (some (([]:List Int),([]:List (S96)),([]:List Int),bt58.2))))=some (r1,r2,r3,r4):=h;clear h;obtain ⟨t58,t91,A2,H⟩:=zO H
 dsimp only at H
 have HC3:=zA H;clear H
 go_enter Tryz.func19,Tryz.ntmps19
 go_upto_if 16 with (first|((with_reducible refine gd 2 rfl ?_);refine zx #[.slice none 0 0,.slice none 0 0,.slice none 0 0] 28 (h:=?_);intro gb54 hg w4 BK54 hb GW54 HB1;have GE54:=GW54;replace HO0:=zA (Kd.V_below (Kd.V_elderB (zV HO0) gb54 (Nat.le_of_eq hg.symm)) hb);clear HB hb hg;have HB:=HB1;clear HB1)|((with_reducible refine gate_callee (f:=14) rfl ?_);refine goesL_ (some 12) rfl rfl Tryz.func14 zK rfl #[.slice A0 l0.length c0] rfl zM ?_;(with_reducible refine (ancepsref42_Cores.calls k _ _ l0 t58 t91 _ ?side1 ?side2 A2.out).mono ?_);(case side1=>exact zC (Kd.V_reads' HO0.out).2.2);(case side2=>exact (Kd.V_reads' HO0.out).2.1);rintro e w5 ⟨v97,rfl,ho0,hb⟩;refine ⟨_,rfl,?_⟩;have HO69:=zA (Kd.N_lower (Kd.N_mono (ok':=fun k_=>(P0_ k_∨w.heap.size≤k_)∧k_≠gb54) ho0 (fun k_ hk_=>⟨(.inr (Nat.le_trans (below_size zB) hk_)),(Kd.freshB (g:=gb54) (o:=.cells #[.slice none 0 0,.slice none 0 0,.slice none 0 0] 28 (0,0)) (zk BK54) k_ hk_)⟩)) (below_size zB));replace HO0:=zA (Kd.V_elder' (zV HO0) (Kd.N_base ho0) hb);replace BK54:=zw BK54 hb;replace HB:=zu hb;clear hb;(try clear ho0)))
 (try simp only [Act.put,zi,zs,zt]);have H:=HC3.out;clear HC3
 rcases ife H with ⟨c6b0,c6b1,H⟩|⟨c6,c6b0,c6b1,H⟩
 ·(first|rw [c6b0]|(simp only [i64_w,i32_w];rw [c6b0])|skip)
  (try rw [c6b1])
  rcases ife H with ⟨c7b0,c7b1,H⟩|⟨c7,c7b0,c7b1,H⟩
  ·simp only [Option.some.injEq,Prod.mk.injEq] at H;obtain ⟨rfl,rfl,rfl,rfl⟩:=H;obtain ⟨Ao8,co8,eo8⟩:=Kd.N_slice HO69.out;subst eo8;have hcz9_0:=zc0 BK54;have hcz9_1:=zc1 BK54;have hcz9_2:=zc2 BK54;have hfz9_0:=zf BK54 0;have hfz9_1:=zf BK54 1;have hfz9_2:=zf BK54 2
   go_wp2
   refine bodyPost_ret (results_ct rfl _ _ gb54 28 #[.slice none 0 0,.slice none 0 0,.slice none 0 0] (0,0) _ rfl (by refine zj ?_;refine blk_put (cs:=#[.slice none 0 0,.slice none 0 0,.slice none 0 0]) ?_ 2 _ rfl;refine zj ?_;refine blk_put (cs:=#[.slice none 0 0,.slice none 0 0,.slice none 0 0]) ?_ 1 _ rfl;refine zj ?_;refine blk_put (cs:=#[.slice none 0 0,.slice none 0 0,.slice none 0 0]) ?_ 0 _ rfl;refine zj ?_;exact BK54.out) Tryz.underlying28 rfl zK) rfl ?_;exact ⟨_,_,_,ze,(Kd.V_nil _ _ _ _ _),by first|exact Kd.R_nil _ _ _ _ _|exact Kd.N_nil _ _ _ _ _|exact Kd.V_nil _ _ _ _ _|exact Kd.Q_nil _ _ _ _ _|exact Kd.S_nil _ _ _ _ _,by first|exact Kd.R_nil _ _ _ _ _|exact Kd.N_nil _ _ _ _ _|exact Kd.V_nil _ _ _ _ _|exact Kd.Q_nil _ _ _ _ _|exact Kd.S_nil _ _ _ _ _,zv1 HB GE54⟩
  ·have c7b2:¬ (t58=[]):=fun h_=>c7 (by rw [h_];rfl)
   obtain ⟨c10,H⟩:=if1 H;have c10b0:decide (0<(t58.length:Int))=true:=decide_eq_true c10;have c10b1:decide (0<t58.length)=true:=decide_eq_true (by omega);clear c10;obtain ⟨t80,A11,H⟩:=zo H;obtain ⟨t66,t92,A12,H⟩:=zO H
   dsimp only at H
   have HC13:=zA H;clear H;obtain ⟨Ao14,co14,eo14⟩:=Kd.N_slice HO69.out;subst eo14
   have p53:0≤(0:Int):=(by omega)
   have q53:0<(t58.length:Int):=of_decide_eq_true zh;obtain ⟨ad53,A53_0,c53_0,e53,hx53_0,hl53_0,hi53_0⟩:=at_L1 (Kd.N_reads' HO69.out).2.2 0 p53 q53
   cases e53
   obtain ⟨ce53,hce53,hMe53,hcc53⟩:=Kd.N_get HO69.out [] 0 p53 (by first|exact q53|exact of_decide_eq_true zh|(have e_:=(Kd.N_reads' HO69.out).1;omega));obtain ⟨ua53_0,uc53_0,rfl,ul53_0,ge53_0⟩:=Kd.FK_slice_open hMe53;have hv53_0:=hcc53 0 _ rfl;rw [Nat.add_zero,show ((Kd.slice 3 (Kd.int .i64))).sz=1 from rfl,Nat.mul_one] at hv53_0;replace hv53_0:=Option.some.inj (hv53_0.symm.trans hx53_0)
   injection hv53_0 with hva_ hvn_ hvc_
   rw [hva_] at ge53_0;rw [hvc_] at ul53_0;have HL53_0:=zA (show Kd.V (Kd.int .i64) 3 _ w.heap.size _ _ (rd_L1 t58 0) from Kd.V_mk ul53_0 ge53_0);clear hva_ hvn_ hvc_ ge53_0 ul53_0;clear hcc53 hce53;have qi53:(0<t58.length)=True:=eq_true (by omega);(try rw [show ((0:Int)).toNat=0 from rfl] at hx53_0);(try rw [Addr.add_zero'] at hx53_0);have HR53_0:=zA hi53_0;have HC53_0:=zA hl53_0;clear hi53_0 hl53_0;replace p53:=eq_true p53;replace q53:=eq_true q53
   go_upto_if 37 with (first|((with_reducible refine gd 6 rfl ?_);refine zx #[.slice none 0 0,.slice none 0 0,.slice none 0 0] 28 (h:=?_);intro gb52 hg w15 BK52 hb GW52 HB1;have GE52:=GW52;have NB54_52:=zL hg BK54;have NB52_54:=zLs NB54_52;replace HO0:=zA (Kd.V_below (Kd.V_elderB (zV HO0) gb52 (Nat.le_of_eq hg.symm)) hb);replace HO69:=zA (Kd.N_below (Kd.N_elderB (zN HO69) gb52 (Nat.le_of_eq hg.symm)) hb);replace BK54:=zw BK54 hb;replace HR53_0:=zA (Kd.C_below ((Kd.V_reads' HL53_0.out).2.2) hb);replace HL53_0:=zA (Kd.V_below (Kd.V_elderB (by (with_reducible repeat (first|apply Kd.V_alloc|apply Kd.V_drewN|apply Kd.V_drew));exact HL53_0.out) gb52 (Nat.le_of_eq hg.symm)) hb);clear HB hb hg;have HB:=HB1;clear HB1;have hnb16:=NB52_54.out;have hnc16:=NB54_52.out;have hcz17_0:=zc0 BK52;have hcz17_1:=zc1 BK52;have hcz17_2:=zc2 BK52;have hfz17_0:=zf BK52 0;have hfz17_1:=zf BK52 1;have hfz17_2:=zf BK52 2)|((with_reducible refine gate_store (t:=28) (p:=6) rfl ?_);refine store_event (t:=28) (p:=6) (v:=?vo_w18) (w1:=(((w15.setCell ⟨gb52,0,none⟩ (.slice A53_0 (rd_L1 t58 0).length c53_0)).setCell ⟨gb52,1,none⟩ (.slice none 0 0)).setCell ⟨gb52,2,none⟩ (.slice none 0 0))) ?hg ?ho ?hn ?hr ?_;(case ho=>rfl);(case hg=>rfl);(case hn=>rfl);(case hr=>first|(go_simp;done)|(go_simp;rfl));intro w18 hw;replace HO0:Aside0 (Kd.V k49 49 w18 w.heap.size (fun k_=>(P0_ k_∨w.heap.size≤k_)∧some k_≠(.slice (some ad53) t58.length co14:Value).ownBlock∧k_≠gb54∧k_≠gb52) (.slice A0 l0.length c0) l0):=⟨(by rw [hw];exact (by (with_reducible repeat (first|apply Kd.V_alloc|apply Kd.V_drewN|apply Kd.V_drew));exact Kd.V_mono (Kd.V_far (p:=⟨gb52,2,none⟩) (Kd.V_far (p:=⟨gb52,1,none⟩) (Kd.V_far (p:=⟨gb52,0,none⟩) (Kd.V_mono HO0.out (fun k_ hk=>(⟨hk,hk.2⟩:_∧k_≠gb52))) (fun _ hk=>hk.2) (.slice A53_0 (rd_L1 t58 0).length c53_0)) (fun _ hk=>hk.2) (.slice none 0 0)) (fun _ hk=>hk.2) (.slice none 0 0)) (fun _ hk=>⟨hk.1.1.1.1,⟨hk.1.1.2,⟨hk.1.1.1.2,hk.1.2⟩⟩⟩)))⟩;replace HO69:Aside0 (Kd.N (Kd.slice 3 (Kd.int .i64)) 23 w18 w.heap.size (fun k_=>(P0_ k_∨w.heap.size≤k_)∧k_≠gb54∧k_≠gb52) (.slice (some ad53) t58.length co14) t58):=⟨(by rw [hw];exact (by (with_reducible repeat (first|apply Kd.N_alloc|apply Kd.N_drewN|apply Kd.N_drew));exact Kd.N_mono (Kd.N_far (p:=⟨gb52,2,none⟩) (Kd.N_far (p:=⟨gb52,1,none⟩) (Kd.N_far (p:=⟨gb52,0,none⟩) (Kd.N_mono HO69.out (fun k_ hk=>(⟨hk,hk.2⟩:_∧k_≠gb52))) (fun _ hk=>hk.2) (.slice A53_0 (rd_L1 t58 0).length c53_0)) (fun _ hk=>hk.2) (.slice none 0 0)) (fun _ hk=>hk.2) (.slice none 0 0)) (fun _ hk=>⟨hk.1.1.1,⟨hk.1.1.2,hk.1.2⟩⟩)))⟩;replace HL53_0:Aside0 (Kd.V (Kd.int .i64) 3 w18 w.heap.size (fun k_=>(P0_ k_∨w.heap.size≤k_)∧some k_≠(.slice (some ad53) t58.length co14:Value).ownBlock∧k_≠gb54∧k_≠gb52) (.slice A53_0 (rd_L1 t58 0).length c53_0) (rd_L1 t58 0)):=⟨(by rw [hw];exact (by (with_reducible repeat (first|apply Kd.V_alloc|apply Kd.V_drewN|apply Kd.V_drew));exact Kd.V_mono (Kd.V_far (p:=⟨gb52,2,none⟩) (Kd.V_far (p:=⟨gb52,1,none⟩) (Kd.V_far (p:=⟨gb52,0,none⟩) (Kd.V_mono HL53_0.out (fun k_ hk=>(⟨hk,hk.2⟩:_∧k_≠gb52))) (fun _ hk=>hk.2) (.slice A53_0 (rd_L1 t58 0).length c53_0)) (fun _ hk=>hk.2) (.slice none 0 0)) (fun _ hk=>hk.2) (.slice none 0 0)) (fun _ hk=>⟨hk.1.1.1.1,⟨hk.1.1.2,⟨hk.1.1.1.2,hk.1.2⟩⟩⟩)))⟩;replace BK54:Aside0 (w18.heap[gb54]?=some (.cells #[.slice none 0 0,.slice none 0 0,.slice none 0 0] 28 (0,0))):=⟨(by rw [hw];exact (by refine zj ?_;refine blk_far ?_ NB54_52.out _;refine zj ?_;refine blk_far ?_ NB54_52.out _;refine zj ?_;refine blk_far ?_ NB54_52.out _;refine zj ?_;exact BK54.out))⟩;replace BK52:Aside0 (w18.heap[gb52]?=some (.cells #[.slice A53_0 (rd_L1 t58 0).length c53_0,.slice none 0 0,.slice none 0 0] 28 (0,0))):=⟨(by rw [hw];exact (by refine zj ?_;refine blk_put (cs:=#[.slice A53_0 (rd_L1 t58 0).length c53_0,.slice none 0 0,.slice none 0 0]) ?_ 2 _ rfl;refine zj ?_;refine blk_put (cs:=#[.slice A53_0 (rd_L1 t58 0).length c53_0,.slice none 0 0,.slice none 0 0]) ?_ 1 _ rfl;refine zj ?_;refine blk_put (cs:=#[.slice none 0 0,.slice none 0 0,.slice none 0 0]) ?_ 0 _ rfl;refine zj ?_;exact BK52.out))⟩;replace HB:Aside0 (Below w.heap.size w w18):=⟨(by rw [hw];exact zB)⟩;clear hw;have hcz19_0:=zc0 BK52;have hcz19_1:=zc1 BK52;have hcz19_2:=zc2 BK52;have hfz19_0:=zf BK52 0;have hfz19_1:=zf BK52 1;have hfz19_2:=zf BK52 2)|((with_reducible refine gate_callee (f:=40) rfl ?_);refine goesL_ (some 31) rfl rfl Tryz.func40 zK rfl #[.slice A0 l0.length c0,.slice A53_0 (rd_L1 t58 0).length c53_0] rfl zM ?_;(with_reducible refine (ancepsref42_System.calls k (fun k_=>((P0_ k_∨w.heap.size≤k_)∧(some k_≠(.slice (some ad53) t58.length co14:Value).ownBlock∧(k_≠gb54∧k_≠gb52)))) _ _ l0 _ _ (rd_L1 t58 0) t80 _ ?side1 ?side2 HC53_0.out A11.out).mono ?_);(case side1=>exact HO0.out);(case side2=>exact zC ((Kd.V_reads' HL53_0.out).2.2));rintro e w20 ⟨v98,rfl,ho0,hb⟩;refine ⟨_,rfl,?_⟩;have HO86:=zA (Kd.N_lower (Kd.N_mono (ok':=fun k_=>(P0_ k_∨w.heap.size≤k_)∧some k_≠(.slice (some ad53) t58.length co14:Value).ownBlock∧k_≠gb54∧k_≠gb52) ho0 (fun k_ hk_=>⟨Or.elim hk_ (fun hs_=>hs_.1) (fun hn_=>(.inr (Nat.le_trans (below_size zB) hn_))),Or.elim hk_ (fun hs_=>hs_.2.1) (fun hn_=>(Kd.fresh' (Kd.N_lt (zN HO69)) k_ hn_)),Or.elim hk_ (fun hs_=>hs_.2.2.1) (fun hn_=>(Kd.freshB (g:=gb54) (o:=.cells #[.slice none 0 0,.slice none 0 0,.slice none 0 0] 28 (0,0)) (zk BK54) k_ hn_)),Or.elim hk_ (fun hs_=>hs_.2.2.2) (fun hn_=>(Kd.freshB (g:=gb52) (o:=.cells #[.slice A53_0 (rd_L1 t58 0).length c53_0,.slice none 0 0,.slice none 0 0] 28 (0,0)) (zk BK52) k_ hn_))⟩)) (below_size zB));replace HO0:=zA (Kd.V_elder' (zV HO0) (Kd.N_base ho0) hb);replace HO69:=zA (Kd.N_elder' (zN HO69) (Kd.N_base ho0) hb);replace BK54:=zw BK54 hb;replace HR53_0:=zA (Kd.C_below ((Kd.V_reads' HL53_0.out).2.2) hb);replace HL53_0:=zA (Kd.V_elder' (by (with_reducible repeat (first|apply Kd.V_alloc|apply Kd.V_drewN|apply Kd.V_drew));exact HL53_0.out) (Kd.N_base ho0) hb);replace BK52:=zw BK52 hb;replace HB:=zu hb;clear hb;(try clear ho0);obtain ⟨Ao21,co21,eo21⟩:=Kd.N_slice HO86.out;subst eo21)|((with_reducible refine gate_callee (f:=48) rfl ?_);refine goesL_ (some 32) rfl rfl Tryz.func48 zK rfl #[.slice Ao21 t80.length co21] rfl zM ?_;(with_reducible refine (ancepsref40_Refute.calls k _ _ t80 t66 t92 _ ?side1 ?side2 A12.out).mono ?_);(case side1=>exact zC (Kd.N_reads' HO86.out).2.2);(case side2=>exact (Kd.N_reads' HO86.out).2.1);rintro e w22 ⟨v99,rfl,ho0,hb⟩;refine ⟨_,rfl,?_⟩;have HO88:=zA (Kd.R_lower (Kd.R_newM (M:=fun k_=>(w.heap.size≤k_)) ho0 (below_size zB) (fun k_ h_=>h_)) (below_size zB));replace HO0:=zA (Kd.V_elder' (zV HO0) (Kd.R_base ho0) hb);replace HO69:=zA (Kd.N_elder' (zN HO69) (Kd.R_base ho0) hb);replace HO86:=zA (Kd.N_elder' (zN HO86) (Kd.R_base ho0) hb);replace BK54:=zw BK54 hb;replace HR53_0:=zA (Kd.C_below ((Kd.V_reads' HL53_0.out).2.2) hb);replace HL53_0:=zA (Kd.V_elder' (by (with_reducible repeat (first|apply Kd.V_alloc|apply Kd.V_drewN|apply Kd.V_drew));exact HL53_0.out) (Kd.R_base ho0) hb);replace BK52:=zw BK52 hb;replace HB:=zu hb;clear hb;(try clear ho0);obtain ⟨Ao23,co23,eo23⟩:=Kd.R_slice HO88.out;subst eo23;have hcz24_0:=zc0 BK52;have hcz24_1:=zc1 BK52;have hcz24_2:=zc2 BK52;have hfz24_0:=zf BK52 0;have hfz24_1:=zf BK52 1;have hfz24_2:=zf BK52 2))
   (try simp only [Act.put,zi,zs,zt]);have H:=HC13.out;clear HC13
   rcases ife H with ⟨c25b0,c25b1,H⟩|⟨c25,c25b0,c25b1,H⟩
   ·(first|rw [c25b0]|(simp only [i64_w,i32_w];rw [c25b0])|skip)
    (try rw [c25b1]);have H':=zA H;clear H
    go_wp2
    go_loopg [7] k (fun kq v7 w'=>∃ (x7_1:Int) (x55_1:List Int) (u55:Value),v7=.int .i64 x7_1∧Aside0 (ancepsref42_Smallest.l0 kq l0 x7_1 (rd_L1 t58 0) t66 x55_1=some (r1,r2,r3,r4))∧Aside0 (kq≤k)∧Aside0 (Kd.V k49 49 w' w.heap.size (fun k_=>(P0_ k_∨w.heap.size≤k_)∧some k_≠((.slice Ao23 t66.length co23):Value).ownBlock∧some k_≠(u55:Value).ownBlock∧k_≠gb54∧k_≠gb52) (.slice A0 l0.length c0) l0)∧Aside0 (Kd.V (Kd.int .i64) 3 w' w.heap.size (fun k_=>(P0_ k_∨w.heap.size≤k_)∧some k_≠((.slice Ao23 t66.length co23):Value).ownBlock∧some k_≠(u55:Value).ownBlock∧k_≠gb54∧k_≠gb52) (.slice A53_0 (rd_L1 t58 0).length c53_0) (rd_L1 t58 0))∧Aside0 (Kd.R k96 96 w' w.heap.size (fun k_=>(w.heap.size≤k_)) (.slice Ao23 t66.length co23) t66)∧Aside0 (Kd.R (Kd.int .i64) 3 w' w.heap.size (fun k_=>(w.heap.size≤k_)) u55 x55_1)∧Aside0 (w'.heap[gb54]?=some (.cells #[(.slice none 0 0),(.slice none 0 0),(.slice none 0 0)] 28 (0,0)))∧Aside0 (w'.heap[gb52]?=some (.cells #[(.slice A53_0 (rd_L1 t58 0).length c53_0),(.slice Ao23 t66.length co23),u55] 28 (0,0)))∧Aside0 (Below w.heap.size w w'))
    case atStart=>exact ⟨(0),(([]:List Int)),(.slice none 0 0),zT,H',⟨Nat.le_refl _⟩,⟨by (with_reducible repeat (first|apply Kd.V_alloc|apply Kd.V_drewN|apply Kd.V_drew));exact Kd.V_mono (Kd.V_far (p:=⟨gb52,1,none⟩) (Kd.V_mono HO0.out (fun k_ hk=>(⟨hk,hk.1.1.2.2.2⟩:_∧k_≠gb52))) (fun _ hk=>hk.2) (.slice Ao23 t66.length co23)) (fun _ hk=>⟨hk.1.1.1.1,⟨hk.1.2,⟨(by simp [Value.ownBlock]),⟨hk.1.1.1.2.2.1,hk.1.1.1.2.2.2⟩⟩⟩⟩)⟩,⟨by (with_reducible repeat (first|apply Kd.V_alloc|apply Kd.V_drewN|apply Kd.V_drew));exact Kd.V_mono (Kd.V_far (p:=⟨gb52,1,none⟩) (Kd.V_mono HL53_0.out (fun k_ hk=>(⟨hk,hk.1.1.2.2.2⟩:_∧k_≠gb52))) (fun _ hk=>hk.2) (.slice Ao23 t66.length co23)) (fun _ hk=>⟨hk.1.1.1.1,⟨hk.1.2,⟨(by simp [Value.ownBlock]),⟨hk.1.1.1.2.2.1,hk.1.1.1.2.2.2⟩⟩⟩⟩)⟩,⟨by refine zr ?_;exact Kd.R_mono (Kd.R_far (p:=⟨gb52,1,none⟩) (Kd.R_types HO88.out BK52.out (by decide)) (fun _ hk=>hk.2) (.slice Ao23 t66.length co23)) (fun _ hk=>hk.1.1)⟩,⟨by first|exact Kd.R_nil _ _ _ _ _|exact Kd.N_nil _ _ _ _ _|exact Kd.V_nil _ _ _ _ _|exact Kd.Q_nil _ _ _ _ _|exact Kd.S_nil _ _ _ _ _⟩,⟨by refine zj ?_;refine blk_far ?_ NB54_52.out _;refine zj ?_;exact BK54.out⟩,⟨by refine zj ?_;refine blk_put (cs:=#[.slice A53_0 (rd_L1 t58 0).length c53_0,.slice none 0 0,.slice none 0 0]) ?_ 1 _ rfl;refine zj ?_;exact BK52.out⟩,⟨zv2 HB GE54 GE52⟩⟩
    case round=>
     clear H'
     try clear c6
     try clear c6b0
     try clear c6b1
     try clear c7
     try clear c7b0
     try clear c7b1
     try clear c7b2
     try clear c10
     try clear c10b0
     try clear c10b1
     try clear c25
     try clear c25b0
     try clear c25b1
     try clear hcz17_0
     try clear hcz17_1
     try clear hcz17_2
     try clear hcz19_0
     try clear hcz19_1
     try clear hcz19_2
     try clear hcz24_0
     try clear hcz24_1
     try clear hcz24_2
     try clear hfz17_0
     try clear hfz17_1
     try clear hfz17_2
     try clear hfz19_0
     try clear hfz19_1
     try clear hfz19_2
     try clear hfz24_0
     try clear hfz24_1
     try clear hfz24_2
     try clear hx53_0
     try clear p53
     try clear q53
     obtain ⟨x7_1,x55_1,u55,rfl,HA,HK1,HO_0,HO_65,HO_67,HO_55,BK54,BK52,HB⟩:=hrel
     cases gk with
     | zero=>exact absurd HA.out (by simp [ancepsref42_Smallest.l0])
     | succ k1=>
      have H:=HA.out;clear HA;simp only [ancepsref42_Smallest.l0] at H
      rcases ifd H with ⟨c26b0,H⟩|⟨c26b0,H⟩
      ·obtain ⟨t73,A27,H⟩:=zo H;obtain ⟨t78,A28,H⟩:=zo H;obtain ⟨t79,t93,A29,H⟩:=zO H
       dsimp only at H
       obtain ⟨c30,H⟩:=if1 H;have LMc30:=zA c30;clear c30
       first|(replace H:=zyb (x55_1++[t79]) H;obtain ⟨y70,Ny70,H⟩:=H)|(obtain ⟨y70,hy70⟩:=zY (x55_1++[t79]);(try rw (occs:=.pos [1]) [← hy70] at H);have Ny70:=zA hy70;clear hy70)
       have H':=zA H;clear H;have hnb31:=NB52_54.out;have hnc31:=NB54_52.out;have hcz32_0:=zc0 BK52;have hcz32_1:=zc1 BK52;have hcz32_2:=zc2 BK52;have hfz32_0:=zf BK52 0;have hfz32_1:=zf BK52 1;have hfz32_2:=zf BK52 2
       go_wp2_with (first|((with_reducible refine gate_callee (f:=42) rfl ?_);refine goesL_ (some 52) rfl rfl Tryz.func42 zK rfl #[.slice A53_0 (rd_L1 t58 0).length c53_0,.int .i64 x7_1] rfl zM ?_;(with_reducible refine (ancepsref42_Without.calls _ _ (rd_L1 t58 0) x7_1 t73 _ ?side1 ?side2 A27.out).mono ?_);(case side1=>exact zC (Kd.V_reads' HO_65.out).2.2);(case side2=>exact (Kd.V_reads' HO_65.out).2.1);rintro e w33 ⟨v753,rfl,ho0,hb⟩;refine ⟨_,rfl,?_⟩;have HO74:=zA (Kd.R_lower (Kd.R_new' (Kd.R_newM (M:=fun k_=>(w.heap.size≤k_)) ho0 (below_size zB) (fun k_ h_=>h_)) (Kd.R_lt (zR HO_55))) (below_size zB));replace HO_0:=zA (Kd.V_elder' (zV HO_0) (Kd.R_base ho0) hb);replace HO_65:=zA (Kd.V_elder' (zV HO_65) (Kd.R_base ho0) hb);replace HO_67:=zA (Kd.R_below (zR HO_67) hb);replace HO_55:=zA (Kd.R_elder' (zR HO_55) (Kd.R_base ho0) hb);replace BK54:=zw BK54 hb;replace BK52:=zw BK52 hb;replace HB:=zu hb;clear hb;(try clear ho0);obtain ⟨Ao34,co34,eo34⟩:=Kd.R_slice HO74.out;subst eo34)|((with_reducible refine gate_callee (f:=40) rfl ?_);refine goesL_ (some 53) rfl rfl Tryz.func40 zK rfl #[.slice A0 l0.length c0,.slice Ao34 t73.length co34] rfl zM ?_;(with_reducible refine (ancepsref42_System.calls k1 (fun k_=>(((P0_ k_∨w.heap.size≤k_)∧(some k_≠(.slice Ao23 t66.length co23:Value).ownBlock∧(some k_≠(u55:Value).ownBlock∧(k_≠gb54∧k_≠gb52))))∧some k_≠(.slice Ao34 t73.length co34:Value).ownBlock)) _ _ l0 _ _ t73 t78 _ ?side1 ?side2 ?side3 A28.out).mono ?_);(case side1=>exact HO_0.out);(case side2=>exact zC (Kd.R_reads' HO74.out).2.2);(case side3=>exact (Kd.R_reads' HO74.out).2.1);rintro e w35 ⟨v756,rfl,ho0,hb⟩;refine ⟨_,rfl,?_⟩;have HO81:=zA (Kd.N_lower (Kd.N_mono (ok':=fun k_=>(P0_ k_∨w.heap.size≤k_)∧some k_≠(.slice Ao23 t66.length co23:Value).ownBlock∧some k_≠(u55:Value).ownBlock∧some k_≠(.slice Ao34 t73.length co34:Value).ownBlock∧k_≠gb54∧k_≠gb52) ho0 (fun k_ hk_=>⟨Or.elim hk_ (fun hs_=>hs_.1.1) (fun hn_=>(.inr (Nat.le_trans (below_size zB) hn_))),Or.elim hk_ (fun hs_=>hs_.1.2.1) (fun hn_=>(Kd.fresh' (Kd.R_lt (zR HO_67)) k_ hn_)),Or.elim hk_ (fun hs_=>hs_.1.2.2.1) (fun hn_=>(Kd.fresh' (Kd.R_lt (zR HO_55)) k_ hn_)),Or.elim hk_ (fun hs_=>hs_.2) (fun hn_=>(Kd.fresh' (Kd.R_lt (zR HO74)) k_ hn_)),Or.elim hk_ (fun hs_=>hs_.1.2.2.2.1) (fun hn_=>(Kd.freshB (g:=gb54) (o:=.cells #[.slice none 0 0,.slice none 0 0,.slice none 0 0] 28 (0,0)) (zk BK54) k_ hn_)),Or.elim hk_ (fun hs_=>hs_.1.2.2.2.2) (fun hn_=>(Kd.freshB (g:=gb52) (o:=.cells #[.slice A53_0 (rd_L1 t58 0).length c53_0,.slice Ao23 t66.length co23,u55] 28 (0,0)) (zk BK52) k_ hn_))⟩)) (below_size zB));replace HO_0:=zA (Kd.V_elder' (zV HO_0) (Kd.N_base ho0) hb);replace HO_65:=zA (Kd.V_elder' (zV HO_65) (Kd.N_base ho0) hb);replace HO_67:=zA (Kd.R_below (zR HO_67) hb);replace HO_55:=zA (Kd.R_below (zR HO_55) hb);replace HO74:=zA (Kd.R_below (zR HO74) hb);replace BK54:=zw BK54 hb;replace BK52:=zw BK52 hb;replace HB:=zu hb;clear hb;(try clear ho0);obtain ⟨Ao36,co36,eo36⟩:=Kd.N_slice HO81.out;subst eo36)|((with_reducible refine gate_callee (f:=49) rfl ?_);refine goesL_ (some 54) rfl rfl Tryz.func49 zK rfl #[.slice Ao36 t78.length co36] rfl zM ?_;(with_reducible refine (ancepsref40_First.calls k1 _ _ t78 t79 t93 _ ?side1 ?side2 A29.out).mono ?_);(case side1=>exact zC (Kd.N_reads' HO81.out).2.2);(case side2=>exact (Kd.N_reads' HO81.out).2.1);rintro e w37 ⟨rfl,hb⟩;refine ⟨_,rfl,?_⟩;replace HO_0:=zA (Kd.V_below (zV HO_0) hb);replace HO_65:=zA (Kd.V_below (zV HO_65) hb);replace HO_67:=zA (Kd.R_below (zR HO_67) hb);replace HO_55:=zA (Kd.R_below (zR HO_55) hb);replace HO74:=zA (Kd.R_below (zR HO74) hb);replace HO81:=zA (Kd.N_below (zN HO81) hb);replace BK54:=zw BK54 hb;replace BK52:=zw BK52 hb;replace HB:=zu hb;clear hb;have hcz38_0:=zc0 BK52;have hcz38_1:=zc1 BK52;have hcz38_2:=zc2 BK52;have hfz38_0:=zf BK52 0;have hfz38_1:=zf BK52 1;have hfz38_2:=zf BK52 2)|((with_reducible refine gate_builtin (b:=.append) (xs:=#[.tmp 58,.tmp 60]) rfl ?_);at_builtin;refine Kd.R_append (Kd.int .i64) (w0:=w) w.heap.size rfl (.tmp 58) (.tmp 60) 23 3 (.int .i64 0) 8 rfl Tryz.underlying23 info3 rfl (by decide) (by omega) u55 x55_1 t79 [.int .i64 t79] (fun k_=>(w.heap.size≤k_)∧some k_≠(.slice Ao34 t73.length co34:Value).ownBlock) (fun _=>False) rfl rfl ?aP (fun _ hk=>hk.elim) ?aF ?aO ?aB ?aS ?aL ?_;(case aP=>exact rfl);(case aB=>exact zB);(case aF=>exact (fun k_ hk=>⟨(Nat.le_trans (below_size zB) hk),Kd.fresh' (Kd.R_lt (zR HO74)) k_ hk⟩));(case aO=>exact (zR HO_55));(case aS=>exact (below_size zB));(case aL=>have:=LMc30.out;omega);intro v761 w39 ho hb hg hat;rw [← Ny70.out] at ho;have HO89:=zA (ho);replace HO_0:=zA (Kd.V_afterv (ok:=(fun k_=>(P0_ k_∨w.heap.size≤k_)∧some k_≠(.slice Ao23 t66.length co23:Value).ownBlock∧some k_≠(.slice Ao34 t73.length co34:Value).ownBlock∧some k_≠(.slice Ao36 t78.length co36:Value).ownBlock∧k_≠gb54∧k_≠gb52)) (by (with_reducible repeat (first|apply Kd.V_alloc|apply Kd.V_drewN|apply Kd.V_drew));exact Kd.V_mono HO_0.out (fun _ hk=>⟨⟨hk.1.1.1,⟨hk.1.1.2.1,⟨hk.1.2,⟨hk.2,⟨hk.1.1.2.2.2.1,hk.1.1.2.2.2.2⟩⟩⟩⟩⟩,hk.1.1.2.2.1⟩)) hg hat);replace HO_65:=zA (Kd.V_afterv (ok:=(fun k_=>(P0_ k_∨w.heap.size≤k_)∧some k_≠(.slice Ao23 t66.length co23:Value).ownBlock∧some k_≠(.slice Ao34 t73.length co34:Value).ownBlock∧some k_≠(.slice Ao36 t78.length co36:Value).ownBlock∧k_≠gb54∧k_≠gb52)) (by (with_reducible repeat (first|apply Kd.V_alloc|apply Kd.V_drewN|apply Kd.V_drew));exact Kd.V_mono HO_65.out (fun _ hk=>⟨⟨hk.1.1.1,⟨hk.1.1.2.1,⟨hk.1.2,⟨hk.2,⟨hk.1.1.2.2.2.1,hk.1.1.2.2.2.2⟩⟩⟩⟩⟩,hk.1.1.2.2.1⟩)) hg hat);replace HO_67:=zA (Kd.R_over' (zR HO_67) (Kd.R_typed (zR HO_55)) (by decide) hg);replace BK54:=zA (blk_grown (g:=gb54) (o:=.cells #[.slice none 0 0,.slice none 0 0,.slice none 0 0] 28 (0,0)) (zk BK54) hg (Kd.R_ne HO_55.out BK54.out (by decide)));replace BK52:=zA (blk_grown (g:=gb52) (o:=.cells #[.slice A53_0 (rd_L1 t58 0).length c53_0,.slice Ao23 t66.length co23,u55] 28 (0,0)) (zk BK52) hg (Kd.R_ne HO_55.out BK52.out (by decide)));replace HO74:=zA (Kd.R_after (ok:=(fun k_=>(w.heap.size≤k_))) (by refine zr ?_;exact Kd.R_mono HO74.out (fun _ hk=>⟨hk.1.1,hk.2⟩)) hg hat);replace HO81:=zA (Kd.N_afterv (ok:=(fun k_=>(P0_ k_∨w.heap.size≤k_)∧some k_≠(.slice Ao23 t66.length co23:Value).ownBlock∧some k_≠(.slice Ao34 t73.length co34:Value).ownBlock∧k_≠gb54∧k_≠gb52)) (by (with_reducible repeat (first|apply Kd.N_alloc|apply Kd.N_drewN|apply Kd.N_drew));exact Kd.N_mono HO81.out (fun _ hk=>⟨⟨hk.1,⟨hk.2.1,⟨hk.2.2.2.1,⟨hk.2.2.2.2.1,hk.2.2.2.2.2⟩⟩⟩⟩,hk.2.2.1⟩)) hg hat);replace HB:=zA (hb);clear HO_55;clear ho hb hg hat;obtain ⟨Ao40,co40,eo40⟩:=Kd.R_slice HO89.out;subst eo40;have hcz41_0:=zc0 BK52;have hcz41_1:=zc1 BK52;have hcz41_2:=zc2 BK52;have hfz41_0:=zf BK52 0;have hfz41_1:=zf BK52 1;have hfz41_2:=zf BK52 2))
       go_roundg k1
       case measure=>have:=HK1.out;omega
       case rel=>exact ⟨(wrap64 (x7_1+1)),(y70),(.slice Ao40 y70.length co40),zT,H',⟨by have:=HK1.out;omega⟩,⟨by (with_reducible repeat (first|apply Kd.V_alloc|apply Kd.V_drewN|apply Kd.V_drew));exact Kd.V_mono (Kd.V_far (p:=⟨gb52,2,none⟩) (Kd.V_mono HO_0.out (fun k_ hk=>(⟨hk,hk.1.2.2.2.2.2⟩:_∧k_≠gb52))) (fun _ hk=>hk.2) (.slice Ao40 y70.length co40)) (fun _ hk=>⟨hk.1.1.1,⟨hk.1.1.2.1,⟨hk.1.2,⟨hk.1.1.2.2.2.2.1,hk.1.1.2.2.2.2.2⟩⟩⟩⟩)⟩,⟨by (with_reducible repeat (first|apply Kd.V_alloc|apply Kd.V_drewN|apply Kd.V_drew));exact Kd.V_mono (Kd.V_far (p:=⟨gb52,2,none⟩) (Kd.V_mono HO_65.out (fun k_ hk=>(⟨hk,hk.1.2.2.2.2.2⟩:_∧k_≠gb52))) (fun _ hk=>hk.2) (.slice Ao40 y70.length co40)) (fun _ hk=>⟨hk.1.1.1,⟨hk.1.1.2.1,⟨hk.1.2,⟨hk.1.1.2.2.2.2.1,hk.1.1.2.2.2.2.2⟩⟩⟩⟩)⟩,⟨by refine zr ?_;exact Kd.R_mono (Kd.R_far (p:=⟨gb52,2,none⟩) (Kd.R_types HO_67.out BK52.out (by decide)) (fun _ hk=>hk.2) (.slice Ao40 y70.length co40)) (fun _ hk=>hk.1)⟩,⟨by refine zr ?_;exact Kd.R_mono (Kd.R_far (p:=⟨gb52,2,none⟩) (Kd.R_types HO89.out BK52.out (by decide)) (fun _ hk=>hk.2) (.slice Ao40 y70.length co40)) (fun _ hk=>hk.1.1)⟩,⟨by refine zj ?_;refine blk_far ?_ NB54_52.out _;refine zj ?_;exact BK54.out⟩,⟨by refine zj ?_;refine blk_put (cs:=#[.slice A53_0 (rd_L1 t58 0).length c53_0,.slice Ao23 t66.length co23,u55]) ?_ 2 _ rfl;refine zj ?_;exact BK52.out⟩,⟨zv2 HB GE54 GE52⟩⟩
      ·simp only [Option.some.injEq,Prod.mk.injEq] at H;obtain ⟨rfl,rfl,rfl,rfl⟩:=H;have hnb42:=NB52_54.out;have hnc42:=NB54_52.out;have hcz43_0:=zc0 BK52;have hcz43_1:=zc1 BK52;have hcz43_2:=zc2 BK52;have hfz43_0:=zf BK52 0;have hfz43_1:=zf BK52 1;have hfz43_2:=zf BK52 2;have hcz44_0:=zc0 BK54;have hcz44_1:=zc1 BK54;have hcz44_2:=zc2 BK54;have hfz44_0:=zf BK54 0;have hfz44_1:=zf BK54 1;have hfz44_2:=zf BK54 2;obtain ⟨Ao45,co45,eo45⟩:=Kd.R_slice HO_55.out;subst eo45
       go_wp2
       refine bodyPost_ret (results_ct rfl _ _ gb54 28 #[.slice A53_0 (rd_L1 t58 0).length c53_0,.slice Ao23 t66.length co23,.slice Ao45 x55_1.length co45] (0,0) _ rfl (by refine zj ?_;refine blk_put (cs:=#[.slice A53_0 (rd_L1 t58 0).length c53_0,.slice Ao23 t66.length co23,.slice none 0 0]) ?_ 2 _ rfl;refine zj ?_;refine blk_put (cs:=#[.slice A53_0 (rd_L1 t58 0).length c53_0,.slice none 0 0,.slice none 0 0]) ?_ 1 _ rfl;refine zj ?_;refine blk_put (cs:=#[.slice none 0 0,.slice none 0 0,.slice none 0 0]) ?_ 0 _ rfl;refine zj ?_;exact BK54.out) Tryz.underlying28 rfl zK) rfl ?_;exact ⟨_,_,_,ze,by (with_reducible repeat (first|apply Kd.V_alloc|apply Kd.V_drewN|apply Kd.V_drew));exact Kd.V_mono (Kd.V_far (p:=⟨gb54,2,none⟩) (Kd.V_far (p:=⟨gb54,1,none⟩) (Kd.V_far (p:=⟨gb54,0,none⟩) (Kd.V_mono HO_65.out (fun k_ hk=>(⟨hk,hk.2.2.2.1⟩:_∧k_≠gb54))) (fun _ hk=>hk.2) (.slice A53_0 (rd_L1 t58 0).length c53_0)) (fun _ hk=>hk.2) (.slice Ao23 t66.length co23)) (fun _ hk=>hk.2) (.slice Ao45 x55_1.length co45)) (fun _ hk=>⟨hk.1.1,⟨hk.1.2.1,hk.1.2.2.1⟩⟩),by refine zr ?_;exact Kd.R_mono (Kd.R_far (p:=⟨gb54,2,none⟩) (Kd.R_far (p:=⟨gb54,1,none⟩) (Kd.R_far (p:=⟨gb54,0,none⟩) (Kd.R_types HO_67.out BK54.out (by decide)) (fun _ hk=>hk.2) (.slice A53_0 (rd_L1 t58 0).length c53_0)) (fun _ hk=>hk.2) (.slice Ao23 t66.length co23)) (fun _ hk=>hk.2) (.slice Ao45 x55_1.length co45)) (fun _ hk=>hk.1),by refine zr ?_;exact Kd.R_mono (Kd.R_far (p:=⟨gb54,2,none⟩) (Kd.R_far (p:=⟨gb54,1,none⟩) (Kd.R_far (p:=⟨gb54,0,none⟩) (Kd.R_types HO_55.out BK54.out (by decide)) (fun _ hk=>hk.2) (.slice A53_0 (rd_L1 t58 0).length c53_0)) (fun _ hk=>hk.2) (.slice Ao23 t66.length co23)) (fun _ hk=>hk.2) (.slice Ao45 x55_1.length co45)) (fun _ hk=>hk.1),zv2 HB GE54 GE52⟩
   ·(first|rw [c25b0]|(simp only [i64_w,i32_w];rw [c25b0])|skip)
    (try rw [c25b1]);simp only [Option.some.injEq,Prod.mk.injEq] at H;obtain ⟨rfl,rfl,rfl,rfl⟩:=H;have hnb46:=NB54_52.out;have hnc46:=NB52_54.out;have hcz47_0:=zc0 BK54;have hcz47_1:=zc1 BK54;have hcz47_2:=zc2 BK54;have hfz47_0:=zf BK54 0;have hfz47_1:=zf BK54 1;have hfz47_2:=zf BK54 2
    go_wp2
    refine bodyPost_ret (results_ct rfl _ _ gb54 28 #[.slice none 0 0,.slice none 0 0,.slice none 0 0] (0,0) _ rfl (by refine zj ?_;refine blk_put (cs:=#[.slice none 0 0,.slice none 0 0,.slice none 0 0]) ?_ 2 _ rfl;refine zj ?_;refine blk_put (cs:=#[.slice none 0 0,.slice none 0 0,.slice none 0 0]) ?_ 1 _ rfl;refine zj ?_;refine blk_put (cs:=#[.slice none 0 0,.slice none 0 0,.slice none 0 0]) ?_ 0 _ rfl;refine zj ?_;refine blk_far ?_ NB54_52.out _;refine zj ?_;exact BK54.out) Tryz.underlying28 rfl zK) rfl ?_;exact ⟨_,_,_,ze,(Kd.V_nil _ _ _ _ _),by first|exact Kd.R_nil _ _ _ _ _|exact Kd.N_nil _ _ _ _ _|exact Kd.V_nil _ _ _ _ _|exact Kd.Q_nil _ _ _ _ _|exact Kd.S_nil _ _ _ _ _,by first|exact Kd.R_nil _ _ _ _ _|exact Kd.N_nil _ _ _ _ _|exact Kd.V_nil _ _ _ _ _|exact Kd.Q_nil _ _ _ _ _|exact Kd.S_nil _ _ _ _ _,zv2 HB GE54 GE52⟩
 ·(first|rw [c6b0]|(simp only [i64_w,i32_w];rw [c6b0])|skip)
  (try rw [c6b1]);simp only [Option.some.injEq,Prod.mk.injEq] at H;obtain ⟨rfl,rfl,rfl,rfl⟩:=H;have hcz48_0:=zc0 BK54;have hcz48_1:=zc1 BK54;have hcz48_2:=zc2 BK54;have hfz48_0:=zf BK54 0;have hfz48_1:=zf BK54 1;have hfz48_2:=zf BK54 2
  go_wp2
  refine bodyPost_ret (results_ct rfl _ _ gb54 28 #[.slice none 0 0,.slice none 0 0,.slice none 0 0] (0,0) _ rfl (by refine zj ?_;refine blk_put (cs:=#[.slice none 0 0,.slice none 0 0,.slice none 0 0]) ?_ 2 _ rfl;refine zj ?_;refine blk_put (cs:=#[.slice none 0 0,.slice none 0 0,.slice none 0 0]) ?_ 1 _ rfl;refine zj ?_;refine blk_put (cs:=#[.slice none 0 0,.slice none 0 0,.slice none 0 0]) ?_ 0 _ rfl;refine zj ?_;exact BK54.out) Tryz.underlying28 rfl zK) rfl ?_;exact ⟨_,_,_,ze,(Kd.V_nil _ _ _ _ _),by first|exact Kd.R_nil _ _ _ _ _|exact Kd.N_nil _ _ _ _ _|exact Kd.V_nil _ _ _ _ _|exact Kd.Q_nil _ _ _ _ _|exact Kd.S_nil _ _ _ _ _,by first|exact Kd.R_nil _ _ _ _ _|exact Kd.N_nil _ _ _ _ _|exact Kd.V_nil _ _ _ _ _|exact Kd.Q_nil _ _ _ _ _|exact Kd.S_nil _ _ _ _ _,zv1 HB GE54⟩
def ancepsref40_Same.l0:Nat→Int→List (S96)→List (S96)→Option (Bool)
 | 0,_,_,_=>none
 | k+1,x5,x71,x72=>if x5<(x71.length:Int) then (if 0≤x5 then (if x5<(x72.length:Int) then (if (!(((rd_T96 x71 x5).f0) == ((rd_T96 x72 x5).f0))||(!(((rd_T96 x71 x5).f1) == ((rd_T96 x72 x5).f1))||(!(((rd_T96 x71 x5).f2) == ((rd_T96 x72 x5).f2))||(!(((rd_T96 x71 x5).f3) == ((rd_T96 x72 x5).f3))))))=true then (some false) else (ancepsref40_Same.l0 k (wrap64 (x5+1)) x71 x72)) else (none)) else (none)) else (some true)
def ancepsref40_Same.f (k:Nat) (l0_0:List (S96)) (l1_0:List (S96)):Option (Bool):=if (l0_0.length:Int)=(l1_0.length:Int) then (ancepsref40_Same.l0 k 0 l0_0 l1_0) else (some false)
set_option maxHeartbeats 8000000 in
set_option maxRecDepth 100000 in
theorem ancepsref40_Same.calls (k:Nat) (A0_0:Option Addr) (c0_0:Nat) (l0_0:List (S96)) (A1_0:Option Addr) (c1_0:Nat) (l1_0:List (S96)) (r:Bool) (w:World) (hr0_0:Kd.C k96 w A0_0 l0_0.length l0_0) (hc0_0:l0_0.length≤c0_0) (hr1_0:Kd.C k96 w A1_0 l1_0.length l1_0) (hc1_0:l1_0.length≤c1_0) (h:ancepsref40_Same.f k l0_0 l1_0=some r) :
  Calls Tryz.prog 51 #[.agg #[.slice A0_0 l0_0.length c0_0],.agg #[.slice A1_0 l1_0.length c1_0]] w fun e w'=>e=.returned (.bool r)∧Below w.heap.size w w':=by
 have HR0_0:=zA hr0_0;have HC0_0:=zA hc0_0;clear hr0_0 hc0_0;have HR1_0:=zA hr1_0;have HC1_0:=zA hc1_0;clear hr1_0 hc1_0;have HB:=zA (Below.refl w.heap.size w);have H:(if (l0_0.length:Int)=(l1_0.length:Int) then (ancepsref40_Same.l0 k 0 l0_0 l1_0) else (some false))=some r:=h;clear h;have HC3:=zA H;clear H
 go_enter Tryz.func51,Tryz.ntmps51
 go_upto_if 12 with (first|((with_reducible refine gd 2 rfl ?_);refine zx #[.slice A0_0 l0_0.length c0_0] 26 (h:=?_);intro gb56 hg w4 BK56 hb GW56 HB1;have GE56:=GW56;clear HB hb hg;have HB:=HB1;clear HB1)|((with_reducible refine gd 3 rfl ?_);refine zx #[.slice A1_0 l1_0.length c1_0] 26 (h:=?_);intro gb59 hg w5 BK59 hb GW59 HB1;have GE59:=GW59;have NB56_59:=zL hg BK56;have NB59_56:=zLs NB56_59;replace BK56:=zw BK56 hb;clear HB hb hg;have HB:=HB1;clear HB1;have hnb6:=NB56_59.out;have hnc6:=NB59_56.out;have hcz7_0:=zc0 BK56;have hfz7_0:=zf BK56 0;have hcz8_0:=zc0 BK59;have hfz8_0:=zf BK59 0))
 repeat (go_quiet (first|((with_reducible refine gd 2 rfl ?_);refine zx #[.slice A0_0 l0_0.length c0_0] 26 (h:=?_);intro gb56 hg w4 BK56 hb GW56 HB1;have GE56:=GW56;clear HB hb hg;have HB:=HB1;clear HB1)|((with_reducible refine gd 3 rfl ?_);refine zx #[.slice A1_0 l1_0.length c1_0] 26 (h:=?_);intro gb59 hg w5 BK59 hb GW59 HB1;have GE59:=GW59;have NB56_59:=zL hg BK56;have NB59_56:=zLs NB56_59;replace BK56:=zw BK56 hb;clear HB hb hg;have HB:=HB1;clear HB1;have hnb6:=NB56_59.out;have hnc6:=NB59_56.out;have hcz7_0:=zc0 BK56;have hfz7_0:=zf BK56 0;have hcz8_0:=zc0 BK59;have hfz8_0:=zf BK59 0));go_upto_if 12 with (first|((with_reducible refine gd 2 rfl ?_);refine zx #[.slice A0_0 l0_0.length c0_0] 26 (h:=?_);intro gb56 hg w4 BK56 hb GW56 HB1;have GE56:=GW56;clear HB hb hg;have HB:=HB1;clear HB1)|((with_reducible refine gd 3 rfl ?_);refine zx #[.slice A1_0 l1_0.length c1_0] 26 (h:=?_);intro gb59 hg w5 BK59 hb GW59 HB1;have GE59:=GW59;have NB56_59:=zL hg BK56;have NB59_56:=zLs NB56_59;replace BK56:=zw BK56 hb;clear HB hb hg;have HB:=HB1;clear HB1;have hnb6:=NB56_59.out;have hnc6:=NB59_56.out;have hcz7_0:=zc0 BK56;have hfz7_0:=zf BK56 0;have hcz8_0:=zc0 BK59;have hfz8_0:=zf BK59 0)))
 (try simp only [Act.put,zi,zs,zt]);have H:=HC3.out;clear HC3
 rcases if0 H with ⟨c9,H⟩|⟨c9,H⟩
 ·have c9b0:((l0_0.length:Int) == (l1_0.length:Int))=true:=beq_iff_eq.mpr c9;have c9b1:((l0_0.length:Int) != (l1_0.length:Int))=false:=bne_eq_false_iff_eq.mpr c9
  have c9b2:(l0_0.length == l1_0.length)=true:=by first|simpa using c9|(simp at c9 ⊢;omega)
  clear c9
  (first|rw [c9b0]|(simp only [i64_w,i32_w];rw [c9b0])|skip)
  (try rw [c9b1]);(try rw [c9b2]);have H':=zA H;clear H
  go_wp2
  repeat (go_quiet (fail);try go_wp2)
  go_loopg [5] k (fun kq v5 w'=>∃ (x5_1:Int),v5=.int .i64 x5_1∧Aside0 (ancepsref40_Same.l0 kq x5_1 l0_0 l1_0=some r)∧Aside0 (kq≤k)∧Aside0 (w'.heap[gb56]?=some (.cells #[(.slice A0_0 l0_0.length c0_0)] 26 (0,0)))∧Aside0 (w'.heap[gb59]?=some (.cells #[(.slice A1_0 l1_0.length c1_0)] 26 (0,0)))∧Aside0 (Below w.heap.size w w'))
  case atStart=>exact ⟨(0),zT,H',⟨Nat.le_refl _⟩,⟨by refine zj ?_;exact BK56.out⟩,⟨by refine zj ?_;exact BK59.out⟩,⟨zv2 HB GE56 GE59⟩⟩
  case round=>
   clear H'
   try clear c9
   try clear c9b0
   try clear c9b1
   try clear c9b2
   try clear hcz7_0
   try clear hcz8_0
   try clear hfz7_0
   try clear hfz8_0
   obtain ⟨x5_1,rfl,HA,HK1,BK56,BK59,HB⟩:=hrel
   cases gk with
   | zero=>exact absurd HA.out (by simp [ancepsref40_Same.l0])
   | succ k1=>
    have H:=HA.out;clear HA;simp only [ancepsref40_Same.l0] at H
    rcases ifd H with ⟨c10b0,H⟩|⟨c10b0,H⟩
    ·obtain ⟨c11b0,H⟩:=ifd1 H;obtain ⟨c12b0,H⟩:=ifd1 H
     rcases if0 H with ⟨c13,H⟩|⟨c13,H⟩
     ·have c13b0:(!(((rd_T96 l0_0 x5_1).f0) == ((rd_T96 l1_0 x5_1).f0))||(!(((rd_T96 l0_0 x5_1).f1) == ((rd_T96 l1_0 x5_1).f1))||(!(((rd_T96 l0_0 x5_1).f2) == ((rd_T96 l1_0 x5_1).f2))||(!(((rd_T96 l0_0 x5_1).f3) == ((rd_T96 l1_0 x5_1).f3))))))=true:=c13;clear c13;obtain rfl:=Option.some.inj H;have hnb14:=NB56_59.out;have hnc14:=NB59_56.out;have hcz15_0:=zc0 BK56;have hfz15_0:=zf BK56 0;obtain ⟨p62,q62,ad62,e62,hx62_0,hx62_1,hx62_2,hx62_3⟩:=zp (at_T96 HR0_0.out x5_1)
      cases e62
      replace hx62_0:=zd HB hx62_0;replace hx62_1:=zd HB hx62_1;replace hx62_2:=zd HB hx62_2;replace hx62_3:=zd HB hx62_3;replace p62:=eq_true p62;replace q62:=eq_true q62;have hcz16_0:=zc0 BK59;have hfz16_0:=zf BK59 0;obtain ⟨p63,q63,ad63,e63,hx63_0,hx63_1,hx63_2,hx63_3⟩:=zp (at_T96 HR1_0.out x5_1)
      cases e63
      replace hx63_0:=zd HB hx63_0;replace hx63_1:=zd HB hx63_1;replace hx63_2:=zd HB hx63_2;replace hx63_3:=zd HB hx63_3;replace p63:=eq_true p63;replace q63:=eq_true q63
      go_wp2
      repeat (go_quiet (fail);try go_wp2)
      go_ret
      exact ⟨ze,zv2 HB GE56 GE59⟩
     ·have c13b0:(!(((rd_T96 l0_0 x5_1).f0) == ((rd_T96 l1_0 x5_1).f0))||(!(((rd_T96 l0_0 x5_1).f1) == ((rd_T96 l1_0 x5_1).f1))||(!(((rd_T96 l0_0 x5_1).f2) == ((rd_T96 l1_0 x5_1).f2))||(!(((rd_T96 l0_0 x5_1).f3) == ((rd_T96 l1_0 x5_1).f3))))))=false:=by simpa using c13
      clear c13;have H':=zA H;clear H;have hnb17:=NB56_59.out;have hnc17:=NB59_56.out;have hcz18_0:=zc0 BK56;have hfz18_0:=zf BK56 0;obtain ⟨p62,q62,ad62,e62,hx62_0,hx62_1,hx62_2,hx62_3⟩:=zp (at_T96 HR0_0.out x5_1)
      cases e62
      replace hx62_0:=zd HB hx62_0;replace hx62_1:=zd HB hx62_1;replace hx62_2:=zd HB hx62_2;replace hx62_3:=zd HB hx62_3;replace p62:=eq_true p62;replace q62:=eq_true q62;have hcz19_0:=zc0 BK59;have hfz19_0:=zf BK59 0;obtain ⟨p63,q63,ad63,e63,hx63_0,hx63_1,hx63_2,hx63_3⟩:=zp (at_T96 HR1_0.out x5_1)
      cases e63
      replace hx63_0:=zd HB hx63_0;replace hx63_1:=zd HB hx63_1;replace hx63_2:=zd HB hx63_2;replace hx63_3:=zd HB hx63_3;replace p63:=eq_true p63;replace q63:=eq_true q63
      go_wp2
      repeat (go_quiet (fail);try go_wp2)
      go_roundg k1
      case measure=>have:=HK1.out;omega
      case rel=>exact ⟨(wrap64 (x5_1+1)),zT,H',⟨by have:=HK1.out;omega⟩,⟨by refine zj ?_;exact BK56.out⟩,⟨by refine zj ?_;exact BK59.out⟩,⟨zv2 HB GE56 GE59⟩⟩
    ·obtain rfl:=Option.some.inj H;have hnb20:=NB56_59.out;have hnc20:=NB59_56.out;have hcz21_0:=zc0 BK56;have hfz21_0:=zf BK56 0
     go_wp2
     repeat (go_quiet (fail);try go_wp2)
     go_ret
     exact ⟨ze,zv2 HB GE56 GE59⟩
 ·have c9b0:((l0_0.length:Int) == (l1_0.length:Int))=false:=beq_eq_false_iff_ne.mpr c9;have c9b1:((l0_0.length:Int) != (l1_0.length:Int))=true:=bne_iff_ne.mpr c9
  have c9b2:(l0_0.length == l1_0.length)=false:=by first|simpa using c9|(simp at c9 ⊢;omega)
  (first|rw [c9b0]|(simp only [i64_w,i32_w];rw [c9b0])|skip)
  (try rw [c9b1]);(try rw [c9b2]);obtain rfl:=Option.some.inj H
  go_wp2
  repeat (go_quiet (fail);try go_wp2)
  go_ret
  exact ⟨ze,zv2 HB GE56 GE59⟩
def ancepsref42_SameCore.f (k:Nat) (l0_0:List Int) (l0_1:List (S96)) (l0_2:List Int) (l1_0:List Int) (l1_1:List (S96)) (l1_2:List Int):Option (Bool):=(ancepsref42_Ints.f k l0_0 l1_0).bind fun t87=>(if t87=true then ((ancepsref40_Same.f k l0_1 l1_1).bind fun t82=>(if t82=true then ((ancepsref42_Ints.f k l0_2 l1_2).bind fun t75=>(some t75)) else (some false))) else (some false))
set_option maxHeartbeats 8000000 in
set_option maxRecDepth 100000 in
theorem ancepsref42_SameCore.calls (k:Nat) (A0_0:Option Addr) (c0_0:Nat) (l0_0:List Int) (A0_1:Option Addr) (c0_1:Nat) (l0_1:List (S96)) (A0_2:Option Addr) (c0_2:Nat) (l0_2:List Int) (A1_0:Option Addr) (c1_0:Nat) (l1_0:List Int) (A1_1:Option Addr) (c1_1:Nat) (l1_1:List (S96)) (A1_2:Option Addr) (c1_2:Nat) (l1_2:List Int) (r:Bool) (w:World) (hr0_0:Kd.C (Kd.int .i64) w A0_0 l0_0.length l0_0) (hc0_0:l0_0.length≤c0_0) (hr0_1:Kd.C k96 w A0_1 l0_1.length l0_1) (hc0_1:l0_1.length≤c0_1) (hr0_2:Kd.C (Kd.int .i64) w A0_2 l0_2.length l0_2) (hc0_2:l0_2.length≤c0_2) (hr1_0:Kd.C (Kd.int .i64) w A1_0 l1_0.length l1_0) (hc1_0:l1_0.length≤c1_0) (hr1_1:Kd.C k96 w A1_1 l1_1.length l1_1) (hc1_1:l1_1.length≤c1_1) (hr1_2:Kd.C (Kd.int .i64) w A1_2 l1_2.length l1_2) (hc1_2:l1_2.length≤c1_2) (h:ancepsref42_SameCore.f k l0_0 l0_1 l0_2 l1_0 l1_1 l1_2=some r) :
  Calls Tryz.prog 20 #[.agg #[.slice A0_0 l0_0.length c0_0,.slice A0_1 l0_1.length c0_1,.slice A0_2 l0_2.length c0_2],.agg #[.slice A1_0 l1_0.length c1_0,.slice A1_1 l1_1.length c1_1,.slice A1_2 l1_2.length c1_2]] w fun e w'=>e=.returned (.bool r)∧Below w.heap.size w w':=by
 have HR0_0:=zA hr0_0;have HC0_0:=zA hc0_0;clear hr0_0 hc0_0;have HR0_1:=zA hr0_1;have HC0_1:=zA hc0_1;clear hr0_1 hc0_1;have HR0_2:=zA hr0_2;have HC0_2:=zA hc0_2;clear hr0_2 hc0_2;have HR1_0:=zA hr1_0;have HC1_0:=zA hc1_0;clear hr1_0 hc1_0;have HR1_1:=zA hr1_1;have HC1_1:=zA hc1_1;clear hr1_1 hc1_1;have HR1_2:=zA hr1_2;have HC1_2:=zA hc1_2;clear hr1_2 hc1_2;have HB:=zA (Below.refl w.heap.size w);have H:((ancepsref42_Ints.f k l0_0 l1_0).bind fun t87=>(if t87=true then ((ancepsref40_Same.f k l0_1 l1_1).bind fun t82=>(if t82=true then ((ancepsref42_Ints.f k l0_2 l1_2).bind fun t75=>(some t75)) else (some false))) else (some false)))=some r:=h;clear h;have HC3:=zA H;clear H
 go_enter Tryz.func20,Tryz.ntmps20
 go_upto_region 1 with (first|((with_reducible refine gd 2 rfl ?_);refine zx #[.slice A0_0 l0_0.length c0_0,.slice A0_1 l0_1.length c0_1,.slice A0_2 l0_2.length c0_2] 28 (h:=?_);intro gb60 hg w4 BK60 hb GW60 HB1;have GE60:=GW60;clear HB hb hg;have HB:=HB1;clear HB1)|((with_reducible refine gd 3 rfl ?_);refine zx #[.slice A1_0 l1_0.length c1_0,.slice A1_1 l1_1.length c1_1,.slice A1_2 l1_2.length c1_2] 28 (h:=?_);intro gb61 hg w5 BK61 hb GW61 HB1;have GE61:=GW61;have NB60_61:=zL hg BK60;have NB61_60:=zLs NB60_61;replace BK60:=zw BK60 hb;clear HB hb hg;have HB:=HB1;clear HB1))
 (try simp only [Act.put,zi,zs,zt]);have H:=HC3.out;clear HC3;obtain ⟨t87,A6,H⟩:=zo H
 by_cases c7:t87=true
 ·subst c7
  have H1:((ancepsref40_Same.f k l0_1 l1_1).bind fun t82=>(if t82=true then ((ancepsref42_Ints.f k l0_2 l1_2).bind fun t75=>(some t75)) else (some false)))=some r:=by rw [if_pos rfl] at H;exact H
  clear H;have H:=H1;clear H1;obtain ⟨t82,A8,H⟩:=zo H
  by_cases c9:t82=true
  ·subst c9
   have H1:((ancepsref42_Ints.f k l0_2 l1_2).bind fun t75=>(some t75))=some r:=by rw [if_pos rfl] at H;exact H
   clear H;have H:=H1;clear H1;obtain ⟨t75,A10,H⟩:=zo H;obtain rfl:=Option.some.inj H;have hnb11:=NB60_61.out;have hnc11:=NB61_60.out;have hcz12_0:=zc0 BK60;have hcz12_1:=zc1 BK60;have hcz12_2:=zc2 BK60;have hfz12_0:=zf BK60 0;have hfz12_1:=zf BK60 1;have hfz12_2:=zf BK60 2;have hcz13_0:=zc0 BK61;have hcz13_1:=zc1 BK61;have hcz13_2:=zc2 BK61;have hfz13_0:=zf BK61 0;have hfz13_1:=zf BK61 1;have hfz13_2:=zf BK61 2
   go_wp2_with (first|((with_reducible refine gate_callee (f:=50) rfl ?_);refine goesL_ (some 9) rfl rfl Tryz.func50 zK rfl #[.slice A0_0 l0_0.length c0_0,.slice A1_0 l1_0.length c1_0] rfl zM ?_;(with_reducible refine (ancepsref42_Ints.calls k _ _ l0_0 _ _ l1_0 true _ (zD HR0_0 HB) HC0_0.out (zD HR1_0 HB) HC1_0.out A6.out).mono ?_);rintro e w' ⟨rfl,⟨nd,rfl⟩⟩;refine ⟨_,rfl,?_⟩)|(go_at_call 51;(with_reducible refine (ancepsref40_Same.calls k _ _ l0_1 _ _ l1_1 true _ ?side1 HC0_1.out ?side3 HC1_1.out A8.out).mono ?_);(case side1=>repeat (first|exact (Kd.C_below HR0_1.out zB)|(with_reducible refine Kd.C_alloc ?_ _)|(with_reducible refine Kd.C_drewN ?_ _)|(with_reducible refine Kd.C_drew ?_)));(case side3=>repeat (first|exact (Kd.C_below HR1_1.out zB)|(with_reducible refine Kd.C_alloc ?_ _)|(with_reducible refine Kd.C_drewN ?_ _)|(with_reducible refine Kd.C_drew ?_)));rintro e w14 ⟨rfl,hb⟩;replace BK60:=zw BK60 hb;replace BK61:=zw BK61 hb;replace HB:=zu hb;clear hb;have hcz15_0:=zc0 BK60;have hcz15_1:=zc1 BK60;have hcz15_2:=zc2 BK60;have hfz15_0:=zf BK60 0;have hfz15_1:=zf BK60 1;have hfz15_2:=zf BK60 2;have hcz16_0:=zc0 BK61;have hcz16_1:=zc1 BK61;have hcz16_2:=zc2 BK61;have hfz16_0:=zf BK61 0;have hfz16_1:=zf BK61 1;have hfz16_2:=zf BK61 2)|(go_at_call 50;(with_reducible refine (ancepsref42_Ints.calls k _ _ l0_2 _ _ l1_2 t75 _ (zD HR0_2 HB) HC0_2.out (zD HR1_2 HB) HC1_2.out A10.out).mono ?_);rintro e w' ⟨rfl,⟨nd,rfl⟩⟩))
   go_ret
   exact ⟨ze,zv2 HB GE60 GE61⟩
  ·replace c9:=Bool.eq_false_iff.mpr c9;subst c9
   have H1:(some false)=some r:=by rw [if_neg (show ¬ (false=true) by decide)] at H;exact H
   clear H;have H:=H1;clear H1;obtain rfl:=Option.some.inj H;have hnb17:=NB60_61.out;have hnc17:=NB61_60.out;have hcz18_0:=zc0 BK60;have hcz18_1:=zc1 BK60;have hcz18_2:=zc2 BK60;have hfz18_0:=zf BK60 0;have hfz18_1:=zf BK60 1;have hfz18_2:=zf BK60 2;have hcz19_0:=zc0 BK61;have hcz19_1:=zc1 BK61;have hcz19_2:=zc2 BK61;have hfz19_0:=zf BK61 0;have hfz19_1:=zf BK61 1;have hfz19_2:=zf BK61 2
   go_wp2_with (first|((with_reducible refine gate_callee (f:=50) rfl ?_);refine goesL_ (some 9) rfl rfl Tryz.func50 zK rfl #[.slice A0_0 l0_0.length c0_0,.slice A1_0 l1_0.length c1_0] rfl zM ?_;(with_reducible refine (ancepsref42_Ints.calls k _ _ l0_0 _ _ l1_0 true _ (zD HR0_0 HB) HC0_0.out (zD HR1_0 HB) HC1_0.out A6.out).mono ?_);rintro e w' ⟨rfl,⟨nd,rfl⟩⟩;refine ⟨_,rfl,?_⟩)|(go_at_call 51;(with_reducible refine (ancepsref40_Same.calls k _ _ l0_1 _ _ l1_1 false _ ?side1 HC0_1.out ?side3 HC1_1.out A8.out).mono ?_);(case side1=>repeat (first|exact (Kd.C_below HR0_1.out zB)|(with_reducible refine Kd.C_alloc ?_ _)|(with_reducible refine Kd.C_drewN ?_ _)|(with_reducible refine Kd.C_drew ?_)));(case side3=>repeat (first|exact (Kd.C_below HR1_1.out zB)|(with_reducible refine Kd.C_alloc ?_ _)|(with_reducible refine Kd.C_drewN ?_ _)|(with_reducible refine Kd.C_drew ?_)));rintro e w20 ⟨rfl,hb⟩;replace BK60:=zw BK60 hb;replace BK61:=zw BK61 hb;replace HB:=zu hb;clear hb))
   go_ret
   exact ⟨ze,zv2 HB GE60 GE61⟩
 ·replace c7:=Bool.eq_false_iff.mpr c7;subst c7
  have H1:(some false)=some r:=by rw [if_neg (show ¬ (false=true) by decide)] at H;exact H
  clear H;have H:=H1;clear H1;obtain rfl:=Option.some.inj H;have hnb21:=NB60_61.out;have hnc21:=NB61_60.out;have hcz22_0:=zc0 BK60;have hcz22_1:=zc1 BK60;have hcz22_2:=zc2 BK60;have hfz22_0:=zf BK60 0;have hfz22_1:=zf BK60 1;have hfz22_2:=zf BK60 2;have hcz23_0:=zc0 BK61;have hcz23_1:=zc1 BK61;have hcz23_2:=zc2 BK61;have hfz23_0:=zf BK61 0;have hfz23_1:=zf BK61 1;have hfz23_2:=zf BK61 2
  go_wp2_with (first|((with_reducible refine gate_callee (f:=50) rfl ?_);refine goesL_ (some 9) rfl rfl Tryz.func50 zK rfl #[.slice A0_0 l0_0.length c0_0,.slice A1_0 l1_0.length c1_0] rfl zM ?_;(with_reducible refine (ancepsref42_Ints.calls k _ _ l0_0 _ _ l1_0 false _ (zD HR0_0 HB) HC0_0.out (zD HR1_0 HB) HC1_0.out A6.out).mono ?_);rintro e w' ⟨rfl,⟨nd,rfl⟩⟩;refine ⟨_,rfl,?_⟩))
  go_ret
  exact ⟨ze,zv2 HB GE60 GE61⟩
def conflict_Others.l0:Nat→List (S49)→List Int→List (List Int)→Int→Int→Option (List Int×Int)
 | 0,_,_,_,_,_=>none
 | k+1,x0,x7,x28,x29,x30=>if x30<x29 then (if 0≤x30 then (if x30<(x28.length:Int) then ((conflict_system.f k x0 (rd_L1 x28 x30)).bind fun t83=>((solve_First.f k t83).bind fun bt77=>(if bt77.2=0 then (if x7.length<17592186044416 then (conflict_Others.l0 k x0 (x7++[bt77.1]) x28 x29 (wrap64 (x30+1))) else (none)) else (some (([]:List Int),12))))) else (none)) else (none)) else (some (x7,0))
def conflict_Others.f (k:Nat) (l0:List (S49)) (a1:Int):Option (List Int×Int):=(conflict_valid.f k l0).bind fun t84=>(if t84=0 then (if a1<0 then (some (([]:List Int),6)) else (if a1>(l0.length:Int) then (some (([]:List Int),6)) else ((conflict_sets.f k (l0.length:Int) a1).bind fun t68=>(conflict_Others.l0 k l0 ([]:List Int) t68 (t68.length:Int) 0)))) else (some (([]:List Int),t84)))
set_option maxHeartbeats 8000000 in
set_option maxRecDepth 100000 in
theorem conflict_Others.calls (k:Nat) (A0:Option Addr) (c0:Nat) (l0:List (S49)) (a1:Int) (r1:List Int) (r2:Int) (w:World) (hr0:Kd.C k49 w A0 l0.length l0) (hc0:l0.length≤c0) (h:conflict_Others.f k l0 a1=some (r1,r2)) :
  Calls Tryz.prog 21 #[.slice A0 l0.length c0,.int .i64 a1] w fun e w'=>∃ v0_:Value,e=.returned (.tuple #[v0_,.int .i64 r2])∧Kd.R (Kd.int .i64) 3 w' w.heap.size (fun _=>True) v0_ r1∧Below w.heap.size w w':=by
 have HR0:=zA hr0;have HC0:=zA hc0;clear hr0 hc0;have HB:=zA (Below.refl w.heap.size w);have H:((conflict_valid.f k l0).bind fun t84=>(if t84=0 then (if a1<0 then (some (([]:List Int),6)) else (if a1>(l0.length:Int) then (some (([]:List Int),6)) else ((conflict_sets.f k (l0.length:Int) a1).bind fun t68=>(conflict_Others.l0 k l0 ([]:List Int) t68 (t68.length:Int) 0)))) else (some (([]:List Int),t84))))=some (r1,r2):=h;clear h;obtain ⟨t84,A3,H⟩:=zo H;have HC4:=zA H;clear H
 go_enter Tryz.func21,Tryz.ntmps21
 go_upto_if 15 with (first|((with_reducible refine gate_callee (f:=30) rfl ?_);refine goesL_ (some 13) rfl rfl Tryz.func30 zK rfl #[.slice A0 l0.length c0] rfl zM ?_;(with_reducible refine (conflict_valid.calls k _ _ l0 t84 _ ?side1 HC0.out A3.out).mono ?_);(case side1=>repeat (first|exact HR0.out|(with_reducible refine Kd.C_alloc ?_ _)|(with_reducible refine Kd.C_drewN ?_ _)|(with_reducible refine Kd.C_drew ?_)));rintro e w5 ⟨rfl,hb⟩;refine ⟨_,rfl,?_⟩;replace HB:=zu hb;clear hb))
 (try simp only [Act.put,zi,zs,zt]);have H:=HC4.out;clear HC4
 rcases ife H with ⟨c6b0,c6b1,H⟩|⟨c6,c6b0,c6b1,H⟩
 ·(first|rw [c6b0]|(simp only [i64_w,i32_w];rw [c6b0])|skip)
  (try rw [c6b1])
  rcases ifd H with ⟨c7b0,H⟩|⟨c7b0,H⟩
  ·simp only [Option.some.injEq,Prod.mk.injEq] at H;obtain ⟨rfl,rfl⟩:=H
   go_wp2
   go_ret2
   exact ⟨_,ze,by first|exact Kd.R_nil _ _ _ _ _|exact Kd.N_nil _ _ _ _ _|exact Kd.V_nil _ _ _ _ _|exact Kd.Q_nil _ _ _ _ _|exact Kd.S_nil _ _ _ _ _,zv0 HB⟩
  ·rcases if0 H with ⟨c8,H⟩|⟨c8,H⟩
   ·have c8b0:decide ((l0.length:Int)<a1)=true:=decide_eq_true c8;clear c8;simp only [Option.some.injEq,Prod.mk.injEq] at H;obtain ⟨rfl,rfl⟩:=H
    go_wp2
    go_ret2
    exact ⟨_,ze,by first|exact Kd.R_nil _ _ _ _ _|exact Kd.N_nil _ _ _ _ _|exact Kd.V_nil _ _ _ _ _|exact Kd.Q_nil _ _ _ _ _|exact Kd.S_nil _ _ _ _ _,zv0 HB⟩
   ·have c8b0:decide ((l0.length:Int)<a1)=false:=decide_eq_false c8;clear c8;obtain ⟨t68,A9,H⟩:=zo H;have H':=zA H;clear H
    go_wp2_with (first|((with_reducible refine gate_callee (f:=37) rfl ?_);refine goesL_ (some 28) rfl rfl Tryz.func37 zK rfl #[.int .i64 (l0.length:Int),.int .i64 a1] rfl zM ?_;(with_reducible refine (conflict_sets.calls k (l0.length:Int) a1 t68 _ A9.out).mono ?_);rintro e w10 ⟨v774,rfl,ho0,hb⟩;refine ⟨_,rfl,?_⟩;have HO90:=zA (Kd.N_lower (Kd.N_mono (ok':=fun k_=>True) (Kd.S_N (Kd.S_bound ho0)) (fun k_ hk_=>trivial)) (below_size zB));replace HB:=zu hb;clear hb;(try clear ho0);obtain ⟨Ao11,co11,eo11⟩:=Kd.N_slice HO90.out;subst eo11))
    go_loopg [7,30] k (fun kq v7 v30 w'=>∃ (x7_1:List Int) (x30_1:Int),v30=.int .i64 x30_1∧Aside0 (conflict_Others.l0 kq l0 x7_1 t68 (t68.length:Int) x30_1=some (r1,r2))∧Aside0 (kq≤k)∧Aside0 (Kd.R (Kd.int .i64) 3 w' w.heap.size (fun _=>True) v7 x7_1)∧Aside0 (Kd.N (Kd.slice 3 (Kd.int .i64)) 23 w' w.heap.size (fun k_=>some k_≠(v7:Value).ownBlock) (.slice Ao11 t68.length co11) t68)∧Aside0 (Below w.heap.size w w'))
    case atStart=>exact ⟨(([]:List Int)),(0),zT,H',⟨Nat.le_refl _⟩,⟨by first|exact Kd.R_nil _ _ _ _ _|exact Kd.N_nil _ _ _ _ _|exact Kd.V_nil _ _ _ _ _|exact Kd.Q_nil _ _ _ _ _|exact Kd.S_nil _ _ _ _ _⟩,⟨by (with_reducible repeat (first|apply Kd.N_alloc|apply Kd.N_drewN|apply Kd.N_drew));exact Kd.N_mono HO90.out (fun _ hk=>(by simp [Value.ownBlock]))⟩,⟨zv0 HB⟩⟩
    case round=>
     clear H'
     try clear c6
     try clear c6b0
     try clear c6b1
     try clear c7
     try clear c7b0
     try clear c8
     try clear c8b0
     obtain ⟨x7_1,x30_1,rfl,HA,HK1,HO_7,HO_28,HB⟩:=hrel
     cases gk with
     | zero=>exact absurd HA.out (by simp [conflict_Others.l0])
     | succ k1=>
      have H:=HA.out;clear HA;simp only [conflict_Others.l0] at H
      rcases ifd H with ⟨c12b0,H⟩|⟨c12b0,H⟩
      ·obtain ⟨c13b0,H⟩:=ifd1 H;obtain ⟨c14b0,H⟩:=ifd1 H;obtain ⟨t83,A15,H⟩:=zo H;obtain ⟨t77,t94,A16,H⟩:=zO H
       dsimp only at H
       have HC17:=zA H;clear H;obtain ⟨p57,q57,ad57,A57_0,c57_0,e57,hx57_0,hl57_0,hi57_0⟩:=zp (at_L1 (Kd.N_reads' HO_28.out).2.2 x30_1)
       cases e57
       obtain ⟨ce57,hce57,hMe57,hcc57⟩:=Kd.N_get HO_28.out [] x30_1 p57 (by first|exact q57|exact of_decide_eq_true zh|(have e_:=(Kd.N_reads' HO_28.out).1;omega));obtain ⟨ua57_0,uc57_0,rfl,ul57_0,ge57_0⟩:=Kd.FK_slice_open hMe57;have hv57_0:=hcc57 0 _ rfl;rw [Nat.add_zero,show ((Kd.slice 3 (Kd.int .i64))).sz=1 from rfl,Nat.mul_one] at hv57_0;replace hv57_0:=Option.some.inj (hv57_0.symm.trans hx57_0)
       injection hv57_0 with hva_ hvn_ hvc_
       rw [hva_] at ge57_0;rw [hvc_] at ul57_0;have HL57_0:=zA (show Kd.V (Kd.int .i64) 3 _ w.heap.size _ _ (rd_L1 t68 x30_1) from Kd.V_mk ul57_0 ge57_0);clear hva_ hvn_ hvc_ ge57_0 ul57_0;clear hcc57 hce57;have HR57_0:=zA hi57_0;have HC57_0:=zA hl57_0;clear hi57_0 hl57_0;replace p57:=eq_true p57;replace q57:=eq_true q57
       go_upto_if 42 with (first|((with_reducible refine gate_callee (f:=32) rfl ?_);refine goesL_ (some 37) rfl rfl Tryz.func32 zK rfl #[.slice A0 l0.length c0,.slice A57_0 (rd_L1 t68 x30_1).length c57_0] rfl zM ?_;(with_reducible refine (conflict_system.calls k1 (fun k_=>k_<w.heap.size) _ _ l0 _ _ (rd_L1 t68 x30_1) t83 _ ?side1 ?side2 HC57_0.out A15.out).mono ?_);(case side1=>exact Kd.V_mk HC0.out (Kd.F_below (Kd.C_F k49_heap HR0.out) zB));(case side2=>exact zC ((Kd.V_reads' HL57_0.out).2.2));rintro e w18 ⟨v778,rfl,ho0,hb⟩;refine ⟨_,rfl,?_⟩;have HO85:=zA (Kd.N_lower (Kd.N_mono (ok':=fun k_=>some k_≠(u7:Value).ownBlock∧some k_≠(.slice (some ad57) t68.length co11:Value).ownBlock) ho0 (fun k_ hk_=>⟨Or.elim hk_ (fun hs_=>fun e_=>Nat.not_le.2 hs_ (Kd.R_base HO_7.out k_ e_.symm)) (fun hn_=>(Kd.fresh' (Kd.R_lt (zR HO_7)) k_ hn_)),Or.elim hk_ (fun hs_=>fun e_=>Nat.not_le.2 hs_ (Kd.N_base HO_28.out k_ e_.symm)) (fun hn_=>(Kd.fresh' (Kd.N_lt (zN HO_28)) k_ hn_))⟩)) (below_size zB));replace HO_7:=zA (Kd.R_below (zR HO_7) hb);replace HO_28:=zA (Kd.N_elder' (zN HO_28) (Kd.N_base ho0) hb);replace HR57_0:=zA (Kd.C_below ((Kd.V_reads' HL57_0.out).2.2) hb);replace HL57_0:=zA (Kd.V_elder' (by (with_reducible repeat (first|apply Kd.V_alloc|apply Kd.V_drewN|apply Kd.V_drew));exact HL57_0.out) (Kd.N_base ho0) hb);replace HB:=zu hb;clear hb;(try clear ho0);obtain ⟨Ao19,co19,eo19⟩:=Kd.N_slice HO85.out;subst eo19)|((with_reducible refine gate_callee (f:=47) rfl ?_);refine goesL_ (some 38) rfl rfl Tryz.func47 zK rfl #[.slice Ao19 t83.length co19] rfl zM ?_;(with_reducible refine (solve_First.calls k1 _ _ t83 t77 t94 _ ?side1 ?side2 A16.out).mono ?_);(case side1=>exact zC (Kd.N_reads' HO85.out).2.2);(case side2=>exact (Kd.N_reads' HO85.out).2.1);rintro e w20 ⟨rfl,hb⟩;refine ⟨_,rfl,?_⟩;replace HO_7:=zA (Kd.R_below (zR HO_7) hb);replace HO_28:=zA (Kd.N_below (zN HO_28) hb);replace HO85:=zA (Kd.N_below (zN HO85) hb);replace HR57_0:=zA (Kd.C_below ((Kd.V_reads' HL57_0.out).2.2) hb);replace HL57_0:=zA (Kd.V_below (by (with_reducible repeat (first|apply Kd.V_alloc|apply Kd.V_drewN|apply Kd.V_drew));exact HL57_0.out) hb);replace HB:=zu hb;clear hb))
       (try simp only [Act.put,zi,zs,zt]);have H:=HC17.out;clear HC17
       rcases ife H with ⟨c21b0,c21b1,H⟩|⟨c21,c21b0,c21b1,H⟩
       ·(first|rw [c21b0]|(simp only [i64_w,i32_w];rw [c21b0])|skip)
        (try rw [c21b1]);obtain ⟨c22,H⟩:=if1 H;have LMc22:=zA c22;clear c22
        first|(replace H:=zyb (x7_1++[t77]) H;obtain ⟨y76,Ny76,H⟩:=H)|(obtain ⟨y76,hy76⟩:=zY (x7_1++[t77]);(try rw (occs:=.pos [1]) [← hy76] at H);have Ny76:=zA hy76;clear hy76)
        have H':=zA H;clear H
        go_wp2_with (first|((with_reducible refine gate_builtin (b:=.append) (xs:=#[.tmp 43,.tmp 45]) rfl ?_);(try (refine gate_guard (by rfl) ?_;dsimp only));at_builtin;refine Kd.R_append (Kd.int .i64) (w0:=w) w.heap.size rfl (.tmp 43) (.tmp 45) 23 3 (.int .i64 0) 8 rfl Tryz.underlying23 info3 rfl (by decide) (by omega) u7 x7_1 t77 [.int .i64 t77] (fun _=>True) (fun _=>False) rfl rfl ?aP (fun _ hk=>hk.elim) ?aF ?aO ?aB ?aS ?aL ?_;(case aP=>exact rfl);(case aB=>exact zB);(case aF=>exact (fun _ _=>trivial));(case aO=>exact (zR HO_7));(case aS=>exact (below_size zB));(case aL=>have:=LMc22.out;omega);intro v783 w23 ho hb hg hat;rw [← Ny76.out] at ho;have HO95:=zA (ho);replace HO_28:=zA (Kd.N_afterv (ok:=(fun k_=>some k_≠(.slice Ao19 t83.length co19:Value).ownBlock)) (by (with_reducible repeat (first|apply Kd.N_alloc|apply Kd.N_drewN|apply Kd.N_drew));exact Kd.N_mono HO_28.out (fun _ hk=>⟨hk.2,hk.1⟩)) hg hat);replace HL57_0:=zA (Kd.V_afterv (ok:=(fun k_=>some k_≠(.slice (some ad57) t68.length co11:Value).ownBlock∧some k_≠(.slice Ao19 t83.length co19:Value).ownBlock)) (by (with_reducible repeat (first|apply Kd.V_alloc|apply Kd.V_drewN|apply Kd.V_drew));exact Kd.V_mono HL57_0.out (fun _ hk=>⟨⟨hk.1.2,hk.2⟩,hk.1.1⟩)) hg hat);replace HO85:=zA (Kd.N_afterv (ok:=(fun k_=>some k_≠(.slice (some ad57) t68.length co11:Value).ownBlock)) (by (with_reducible repeat (first|apply Kd.N_alloc|apply Kd.N_drewN|apply Kd.N_drew));exact Kd.N_mono HO85.out (fun _ hk=>⟨hk.2,hk.1⟩)) hg hat);replace HB:=zA (hb);clear HO_7;clear ho hb hg hat))
        go_roundg k1
        case measure=>have:=HK1.out;omega
        case rel=>exact ⟨(y76),(wrap64 (x30_1+1)),zT,H',⟨by have:=HK1.out;omega⟩,⟨by refine zr ?_;exact HO95.out⟩,⟨by (with_reducible repeat (first|apply Kd.N_alloc|apply Kd.N_drewN|apply Kd.N_drew));exact Kd.N_mono HO_28.out (fun _ hk=>hk.2)⟩,⟨zv0 HB⟩⟩
       ·(first|rw [c21b0]|(simp only [i64_w,i32_w];rw [c21b0])|skip)
        (try rw [c21b1]);simp only [Option.some.injEq,Prod.mk.injEq] at H;obtain ⟨rfl,rfl⟩:=H
        go_wp2
        go_ret2
        exact ⟨_,ze,by first|exact Kd.R_nil _ _ _ _ _|exact Kd.N_nil _ _ _ _ _|exact Kd.V_nil _ _ _ _ _|exact Kd.Q_nil _ _ _ _ _|exact Kd.S_nil _ _ _ _ _,zv0 HB⟩
      ·simp only [Option.some.injEq,Prod.mk.injEq] at H;obtain ⟨rfl,rfl⟩:=H
       go_wp2
       go_ret2
       exact ⟨_,ze,by refine zr ?_;exact HO_7.out,zv0 HB⟩
 ·(first|rw [c6b0]|(simp only [i64_w,i32_w];rw [c6b0])|skip)
  (try rw [c6b1]);simp only [Option.some.injEq,Prod.mk.injEq] at H;obtain ⟨rfl,rfl⟩:=H
  go_wp2
  go_ret2
  exact ⟨_,ze,by first|exact Kd.R_nil _ _ _ _ _|exact Kd.N_nil _ _ _ _ _|exact Kd.V_nil _ _ _ _ _|exact Kd.Q_nil _ _ _ _ _|exact Kd.S_nil _ _ _ _ _,zv0 HB⟩
end Go.Proofs.YtkjghablbeaioaaGreat.B
