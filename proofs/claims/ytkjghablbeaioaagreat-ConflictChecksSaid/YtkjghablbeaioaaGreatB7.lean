import Derived.Test.YtkjghablbeaioaaGreatB0
import Derived.Test.YtkjghablbeaioaaGreatB2
import Derived.Test.YtkjghablbeaioaaGreatB5
import Derived.Test.YtkjghablbeaioaaGreatB6
namespace Go.Proofs.YtkjghablbeaioaaGreat.B
open Go.RowKit Go.Proofs.YtkjghablbeaioaaGreatW.PrintWords Go.Proofs.YtkjghablbeaioaaGreatW.PrintLast Go.Proofs.YtkjghablbeaioaaGreatW.PrintMore
attribute [local go_sem] max2_int min2_int max_two min_two max_three min_three max_four min_four Tryz.underlying22 Tryz.underlying23 Tryz.underlying26 Tryz.underlying28
set_option linter.unusedVariables false
set_option linter.unusedSimpArgs false
def conflict_Smallest.l0:Nat→List (S49)→Int→Int→List Int→List (S96)→List Int→Option (List Int×(List (S96))×List Int×Int)
 | 0,_,_,_,_,_,_=>none
 | k+1,x7,x43,x44,x68,x67,x60=>if x44<x43 then ((api_Table_36.f x7).bind fun t82=>((api_Table_35.f t82 x44 (wrap64 (x44+1))).bind fun t78=>((solve_First.f k t78).bind fun bt74=>(if bt74.2=0 then (if x60.length<17592186044416 then (conflict_Smallest.l0 k x7 x43 (wrap64 (x44+1)) x68 x67 (x60++[bt74.1])) else (none)) else (some (([]:List Int),([]:List (S96)),([]:List Int),bt74.2)))))) else (some (x68,x67,x60,0))
def conflict_Smallest.f (k:Nat) (l0:List (S49)):Option (List Int×(List (S96))×List Int×Int):=(conflict_Cores.f k l0).bind fun bt65=>(if bt65.2=0 then (if (bt65.1.length:Int)=0 then (some (([]:List Int),([]:List (S96)),([]:List Int),11)) else (if 0<(bt65.1.length:Int) then ((conflict_system.f k l0 (rd_L1 bt65.1 0)).bind fun t69=>((solve_Refute.f k t69).bind fun bt66=>(if bt66.2=0 then (conflict_Smallest.l0 k t69 (t69.length:Int) 0 (rd_L1 bt65.1 0) bt66.1 ([]:List Int)) else (some (([]:List Int),([]:List (S96)),([]:List Int),bt66.2))))) else (none))) else (some (([]:List Int),([]:List (S96)),([]:List Int),bt65.2)))
set_option maxHeartbeats 8000000 in
set_option maxRecDepth 100000 in
theorem conflict_Smallest.calls (k:Nat) (P0_:Nat→Prop) (A0:Option Addr) (c0:Nat) (l0:List (S49)) (r1:List Int) (r2:List (S96)) (r3:List Int) (r4:Int) (w:World) (hs0:Kd.V k49 49 w w.heap.size (fun k_=>P0_ k_) (.slice A0 l0.length c0) l0) (h:conflict_Smallest.f k l0=some (r1,r2,r3,r4)) :
  Calls Tryz.prog 18 #[.slice A0 l0.length c0] w fun e w'=>∃ v0_ v1_ v2_:Value,e=.returned (.tuple #[.agg #[v0_,v1_,v2_],.int .i64 r4])∧Kd.V (Kd.int .i64) 3 w' w.heap.size (fun k_=>(P0_ k_∨w.heap.size≤k_)∧some k_≠(v1_:Value).ownBlock∧some k_≠(v2_:Value).ownBlock) v0_ r1∧Kd.R k96 96 w' w.heap.size (fun k_=>(w.heap.size≤k_)) v1_ r2∧Kd.R (Kd.int .i64) 3 w' w.heap.size (fun k_=>(w.heap.size≤k_)) v2_ r3∧Below w.heap.size w w':=by
 have HO0:=zA (show Kd.V k49 49 w w.heap.size (fun k_=>(P0_ k_∨w.heap.size≤k_)) (.slice A0 l0.length c0) l0 from Kd.V_mono hs0 (fun k_ hk=>.inl hk));have HB:=zA (Below.refl w.heap.size w);have H:((conflict_Cores.f k l0).bind fun bt65=>(if bt65.2=0 then (if (bt65.1.length:Int)=0 then (some (([]:List Int),([]:List (S96)),([]:List Int),11)) else (if 0<(bt65.1.length:Int) then ((conflict_system.f k l0 (rd_L1 bt65.1 0)).bind fun t69=>((solve_Refute.f k t69).bind fun bt66=>(if bt66.2=0 then (conflict_Smallest.l0 k t69 (t69.length:Int) 0 (rd_L1 bt65.1 0) bt66.1 ([]:List Int)) else (some (([]:List Int),([]:List (S96)),([]:List Int),bt66.2))))) else (none))) else (some (([]:List Int),([]:List (S96)),([]:List Int),bt65.2))))=some (r1,r2,r3,r4):=h;clear h;obtain ⟨t65,t91,A2,H⟩:=zO H
 dsimp only at H
 have HC3:=zA H;clear H
 go_enter Tryz.func18,Tryz.ntmps18
 go_upto_if 17 with (first|((with_reducible refine gd 2 rfl ?_);refine zx #[.slice none 0 0,.slice none 0 0,.slice none 0 0] 28 ?_;intro gb57 hg w4 BK57 hb GW57 HB1;have GE57:=GW57;replace HO0:=zA (Kd.V_below (Kd.V_elderB (zV HO0) gb57 (Nat.le_of_eq hg.symm)) hb);clear HB hb hg;have HB:=HB1;clear HB1)|((with_reducible refine gate_callee (f:=22) rfl ?_);refine zgo 13 Tryz.func22 #[.slice A0 l0.length c0] ?_;(with_reducible refine (conflict_Cores.calls k _ _ l0 t65 t91 _ ?side1 ?side2 A2.out).mono ?_);(case side1=>exact zC (Kd.V_reads' HO0.out).2.2);(case side2=>exact (Kd.V_reads' HO0.out).2.1);rintro e w5 ⟨v97,rfl,ho0,hb⟩;refine ⟨_,rfl,?_⟩;have HO71:=zA (Kd.N_lower (Kd.N_mono (ok':=fun k_=>(P0_ k_∨w.heap.size≤k_)∧k_≠gb57) ho0 (fun k_ hk_=>⟨(.inr (Nat.le_trans (below_size zB) hk_)),(Kd.freshB (g:=gb57) (o:=.cells #[.slice none 0 0,.slice none 0 0,.slice none 0 0] 28 (0,0)) (zk BK57) k_ hk_)⟩)) (below_size zB));replace HO0:=zA (Kd.V_elder' (zV HO0) (Kd.N_base ho0) hb);replace BK57:=zw BK57 hb;replace HB:=zu hb;clear hb;(try clear ho0)))
 (try simp only [Act.put,zi,zs,zt]);have H:=HC3.out;clear HC3
 rcases ife H with ⟨c6b0,c6b1,H⟩|⟨c6,c6b0,c6b1,H⟩
 ·(first|rw [c6b0]|(simp only [i64_w,i32_w];rw [c6b0])|skip)
  (try rw [c6b1])
  rcases ife H with ⟨c7b0,c7b1,H⟩|⟨c7,c7b0,c7b1,H⟩
  ·simp only [Option.some.injEq,Prod.mk.injEq] at H;obtain ⟨rfl,rfl,rfl,rfl⟩:=H;obtain ⟨Ao8,co8,eo8⟩:=Kd.N_slice HO71.out;subst eo8;have hcz9_0:=zc0 BK57;have hcz9_1:=zc1 BK57;have hcz9_2:=zc2 BK57;have hfz9_0:=zf BK57
   go_wp2
   refine bodyPost_ret (results_ct rfl _ _ gb57 28 #[.slice none 0 0,.slice none 0 0,.slice none 0 0] (0,0) _ rfl (by refine zj ?_;refine blk_put (cs:=#[.slice none 0 0,.slice none 0 0,.slice none 0 0]) ?_ 2 _ rfl;refine zj ?_;refine blk_put (cs:=#[.slice none 0 0,.slice none 0 0,.slice none 0 0]) ?_ 1 _ rfl;refine zj ?_;refine blk_put (cs:=#[.slice none 0 0,.slice none 0 0,.slice none 0 0]) ?_ 0 _ rfl;refine zj ?_;exact BK57.out) Tryz.underlying28 rfl zK) rfl ?_;exact ⟨_,_,_,ze,(Kd.V_nil _ _ _ _ _),by first|exact Kd.R_nil _ _ _ _ _|exact Kd.N_nil _ _ _ _ _|exact Kd.V_nil _ _ _ _ _|exact Kd.Q_nil _ _ _ _ _|exact Kd.S_nil _ _ _ _ _,by first|exact Kd.R_nil _ _ _ _ _|exact Kd.N_nil _ _ _ _ _|exact Kd.V_nil _ _ _ _ _|exact Kd.Q_nil _ _ _ _ _|exact Kd.S_nil _ _ _ _ _,zv1 HB GE57⟩
  ·have c7b2:¬ (t65=[]):=fun h_=>c7 (by rw [h_];rfl)
   obtain ⟨c10,H⟩:=if1 H;have c10b0:decide (0<(t65.length:Int))=true:=decide_eq_true c10;have c10b1:decide (0<t65.length)=true:=decide_eq_true (by omega);clear c10;obtain ⟨t69,A11,H⟩:=zo H;obtain ⟨t66,t92,A12,H⟩:=zO H
   dsimp only at H
   have HC13:=zA H;clear H;obtain ⟨Ao14,co14,eo14⟩:=Kd.N_slice HO71.out;subst eo14
   have p59:0≤(0:Int):=(by omega)
   have q59:0<(t65.length:Int):=of_decide_eq_true zh;obtain ⟨ad59,A59_0,c59_0,e59,hx59_0,hl59_0,hi59_0⟩:=at_L1 (Kd.N_reads' HO71.out).2.2 0 p59 q59
   cases e59
   obtain ⟨ce59,hce59,hMe59,hcc59⟩:=Kd.N_get HO71.out [] 0 p59 (by first|exact q59|exact of_decide_eq_true zh|(have e_:=(Kd.N_reads' HO71.out).1;omega));obtain ⟨ua59_0,uc59_0,rfl,ul59_0,ge59_0⟩:=Kd.FK_slice_open hMe59;have hv59_0:=hcc59 0 _ rfl;rw [Nat.add_zero,show ((Kd.slice 3 (Kd.int .i64))).sz=1 from rfl,Nat.mul_one] at hv59_0;replace hv59_0:=Option.some.inj (hv59_0.symm.trans hx59_0)
   injection hv59_0 with hva_ hvn_ hvc_
   rw [hva_] at ge59_0;rw [hvc_] at ul59_0;have HL59_0:=zA (show Kd.V (Kd.int .i64) 3 _ w.heap.size _ _ (rd_L1 t65 0) from Kd.V_mk ul59_0 ge59_0);clear hva_ hvn_ hvc_ ge59_0 ul59_0;clear hcc59 hce59;have qi59:(0<t65.length)=True:=eq_true (by omega);(try rw [show ((0:Int)).toNat=0 from rfl] at hx59_0);(try rw [Addr.add_zero'] at hx59_0);have HR59_0:=zA hi59_0;have HC59_0:=zA hl59_0;clear hi59_0 hl59_0;replace p59:=eq_true p59;replace q59:=eq_true q59
   go_upto_if 39 with (first|((with_reducible refine gd 6 rfl ?_);refine zx #[.slice none 0 0,.slice none 0 0,.slice none 0 0] 28 ?_;intro gb53 hg w15 BK53 hb GW53 HB1;have GE53:=GW53;have NB57_53:=zL hg BK57;have NB53_57:=zLs NB57_53;replace HO0:=zA (Kd.V_below (Kd.V_elderB (zV HO0) gb53 (Nat.le_of_eq hg.symm)) hb);replace HO71:=zA (Kd.N_below (Kd.N_elderB (zN HO71) gb53 (Nat.le_of_eq hg.symm)) hb);replace BK57:=zw BK57 hb;replace HR59_0:=zA (Kd.C_below ((Kd.V_reads' HL59_0.out).2.2) hb);replace HL59_0:=zA (Kd.V_below (Kd.V_elderB (by (with_reducible repeat (first|apply Kd.V_alloc|apply Kd.V_drewN|apply Kd.V_drew));exact HL59_0.out) gb53 (Nat.le_of_eq hg.symm)) hb);clear HB hb hg;have HB:=HB1;clear HB1;have hnb16:=NB53_57.out;have hnc16:=NB57_53.out;have hcz17_0:=zc0 BK53;have hcz17_1:=zc1 BK53;have hcz17_2:=zc2 BK53;have hfz17_0:=zf BK53)|((with_reducible refine gate_store (t:=28) (p:=6) rfl ?_);refine store_event (t:=28) (p:=6) (v:=?vo_w18) (w1:=(((w15.setCell ⟨gb53,0,none⟩ (.slice A59_0 (rd_L1 t65 0).length c59_0)).setCell ⟨gb53,1,none⟩ (.slice none 0 0)).setCell ⟨gb53,2,none⟩ (.slice none 0 0))) ?hg ?ho ?hn ?hr ?_;(case ho=>rfl);(case hg=>rfl);(case hn=>rfl);(case hr=>first|(go_simp;done)|(go_simp;rfl));intro w18 hw;replace HO0:Aside0 (Kd.V k49 49 w18 w.heap.size (fun k_=>(P0_ k_∨w.heap.size≤k_)∧some k_≠(.slice (some ad59) t65.length co14:Value).ownBlock∧k_≠gb57∧k_≠gb53) (.slice A0 l0.length c0) l0):=⟨(by rw [hw];exact (by (with_reducible repeat (first|apply Kd.V_alloc|apply Kd.V_drewN|apply Kd.V_drew));exact Kd.V_mono (Kd.V_far (p:=⟨gb53,2,none⟩) (Kd.V_far (p:=⟨gb53,1,none⟩) (Kd.V_far (p:=⟨gb53,0,none⟩) (Kd.V_mono HO0.out (fun k_ hk=>(⟨hk,hk.2⟩:_∧k_≠gb53))) (fun _ hk=>hk.2) (.slice A59_0 (rd_L1 t65 0).length c59_0)) (fun _ hk=>hk.2) (.slice none 0 0)) (fun _ hk=>hk.2) (.slice none 0 0)) (fun _ hk=>⟨hk.1.1.1.1,⟨hk.1.1.2,⟨hk.1.1.1.2,hk.1.2⟩⟩⟩)))⟩;replace HO71:Aside0 (Kd.N (Kd.slice 3 (Kd.int .i64)) 23 w18 w.heap.size (fun k_=>(P0_ k_∨w.heap.size≤k_)∧k_≠gb57∧k_≠gb53) (.slice (some ad59) t65.length co14) t65):=⟨(by rw [hw];exact (by (with_reducible repeat (first|apply Kd.N_alloc|apply Kd.N_drewN|apply Kd.N_drew));exact Kd.N_mono (Kd.N_far (p:=⟨gb53,2,none⟩) (Kd.N_far (p:=⟨gb53,1,none⟩) (Kd.N_far (p:=⟨gb53,0,none⟩) (Kd.N_mono HO71.out (fun k_ hk=>(⟨hk,hk.2⟩:_∧k_≠gb53))) (fun _ hk=>hk.2) (.slice A59_0 (rd_L1 t65 0).length c59_0)) (fun _ hk=>hk.2) (.slice none 0 0)) (fun _ hk=>hk.2) (.slice none 0 0)) (fun _ hk=>⟨hk.1.1.1,⟨hk.1.1.2,hk.1.2⟩⟩)))⟩;replace HL59_0:Aside0 (Kd.V (Kd.int .i64) 3 w18 w.heap.size (fun k_=>(P0_ k_∨w.heap.size≤k_)∧some k_≠(.slice (some ad59) t65.length co14:Value).ownBlock∧k_≠gb57∧k_≠gb53) (.slice A59_0 (rd_L1 t65 0).length c59_0) (rd_L1 t65 0)):=⟨(by rw [hw];exact (by (with_reducible repeat (first|apply Kd.V_alloc|apply Kd.V_drewN|apply Kd.V_drew));exact Kd.V_mono (Kd.V_far (p:=⟨gb53,2,none⟩) (Kd.V_far (p:=⟨gb53,1,none⟩) (Kd.V_far (p:=⟨gb53,0,none⟩) (Kd.V_mono HL59_0.out (fun k_ hk=>(⟨hk,hk.2⟩:_∧k_≠gb53))) (fun _ hk=>hk.2) (.slice A59_0 (rd_L1 t65 0).length c59_0)) (fun _ hk=>hk.2) (.slice none 0 0)) (fun _ hk=>hk.2) (.slice none 0 0)) (fun _ hk=>⟨hk.1.1.1.1,⟨hk.1.1.2,⟨hk.1.1.1.2,hk.1.2⟩⟩⟩)))⟩;replace BK57:Aside0 (w18.heap[gb57]?=some (.cells #[.slice none 0 0,.slice none 0 0,.slice none 0 0] 28 (0,0))):=⟨(by rw [hw];exact (by refine zj ?_;refine blk_far ?_ NB57_53.out _;refine zj ?_;refine blk_far ?_ NB57_53.out _;refine zj ?_;refine blk_far ?_ NB57_53.out _;refine zj ?_;exact BK57.out))⟩;replace BK53:Aside0 (w18.heap[gb53]?=some (.cells #[.slice A59_0 (rd_L1 t65 0).length c59_0,.slice none 0 0,.slice none 0 0] 28 (0,0))):=⟨(by rw [hw];exact (by refine zj ?_;refine blk_put (cs:=#[.slice A59_0 (rd_L1 t65 0).length c59_0,.slice none 0 0,.slice none 0 0]) ?_ 2 _ rfl;refine zj ?_;refine blk_put (cs:=#[.slice A59_0 (rd_L1 t65 0).length c59_0,.slice none 0 0,.slice none 0 0]) ?_ 1 _ rfl;refine zj ?_;refine blk_put (cs:=#[.slice none 0 0,.slice none 0 0,.slice none 0 0]) ?_ 0 _ rfl;refine zj ?_;exact BK53.out))⟩;replace HB:Aside0 (Below w.heap.size w w18):=⟨(by rw [hw];exact zB)⟩;clear hw;have hcz19_0:=zc0 BK53;have hcz19_1:=zc1 BK53;have hcz19_2:=zc2 BK53;have hfz19_0:=zf BK53)|((with_reducible refine gate_callee (f:=32) rfl ?_);refine zgo 31 Tryz.func32 #[.slice A0 l0.length c0,.slice A59_0 (rd_L1 t65 0).length c59_0] ?_;(with_reducible refine (conflict_system.calls k (fun k_=>((P0_ k_∨w.heap.size≤k_)∧(some k_≠(.slice (some ad59) t65.length co14:Value).ownBlock∧(k_≠gb57∧k_≠gb53)))) _ _ l0 _ _ (rd_L1 t65 0) t69 _ ?side1 ?side2 HC59_0.out A11.out).mono ?_);(case side1=>exact HO0.out);(case side2=>exact zC ((Kd.V_reads' HL59_0.out).2.2));rintro e w20 ⟨v98,rfl,ho0,hb⟩;refine ⟨_,rfl,?_⟩;have HO83:=zA (Kd.N_lower (Kd.N_mono (ok':=fun k_=>(P0_ k_∨w.heap.size≤k_)∧some k_≠(.slice (some ad59) t65.length co14:Value).ownBlock∧k_≠gb57∧k_≠gb53) ho0 (fun k_ hk_=>⟨Or.elim hk_ (fun hs_=>hs_.1) (fun hn_=>(.inr (Nat.le_trans (below_size zB) hn_))),Or.elim hk_ (fun hs_=>hs_.2.1) (fun hn_=>(Kd.fresh' (Kd.N_lt (zN HO71)) k_ hn_)),Or.elim hk_ (fun hs_=>hs_.2.2.1) (fun hn_=>(Kd.freshB (g:=gb57) (o:=.cells #[.slice none 0 0,.slice none 0 0,.slice none 0 0] 28 (0,0)) (zk BK57) k_ hn_)),Or.elim hk_ (fun hs_=>hs_.2.2.2) (fun hn_=>(Kd.freshB (g:=gb53) (o:=.cells #[.slice A59_0 (rd_L1 t65 0).length c59_0,.slice none 0 0,.slice none 0 0] 28 (0,0)) (zk BK53) k_ hn_))⟩)) (below_size zB));replace HO0:=zA (Kd.V_elder' (zV HO0) (Kd.N_base ho0) hb);replace HO71:=zA (Kd.N_elder' (zN HO71) (Kd.N_base ho0) hb);replace BK57:=zw BK57 hb;replace HR59_0:=zA (Kd.C_below ((Kd.V_reads' HL59_0.out).2.2) hb);replace HL59_0:=zA (Kd.V_elder' (by (with_reducible repeat (first|apply Kd.V_alloc|apply Kd.V_drewN|apply Kd.V_drew));exact HL59_0.out) (Kd.N_base ho0) hb);replace BK53:=zw BK53 hb;replace HB:=zu hb;clear hb;(try clear ho0);obtain ⟨Ao21,co21,eo21⟩:=Kd.N_slice HO83.out;subst eo21)|((with_reducible refine gate_callee (f:=46) rfl ?_);refine zgo 34 Tryz.func46 #[.slice Ao21 t69.length co21] ?_;(with_reducible refine (solve_Refute.calls k _ _ t69 t66 t92 _ ?side1 ?side2 A12.out).mono ?_);(case side1=>exact zC (Kd.N_reads' HO83.out).2.2);(case side2=>exact (Kd.N_reads' HO83.out).2.1);rintro e w22 ⟨v99,rfl,ho0,hb⟩;refine ⟨_,rfl,?_⟩;have HO88:=zA (Kd.R_lower (Kd.R_newM (M:=fun k_=>(w.heap.size≤k_)) ho0 (below_size zB) (fun k_ h_=>h_)) (below_size zB));replace HO0:=zA (Kd.V_elder' (zV HO0) (Kd.R_base ho0) hb);replace HO71:=zA (Kd.N_elder' (zN HO71) (Kd.R_base ho0) hb);replace HO83:=zA (Kd.N_elder' (zN HO83) (Kd.R_base ho0) hb);replace BK57:=zw BK57 hb;replace HR59_0:=zA (Kd.C_below ((Kd.V_reads' HL59_0.out).2.2) hb);replace HL59_0:=zA (Kd.V_elder' (by (with_reducible repeat (first|apply Kd.V_alloc|apply Kd.V_drewN|apply Kd.V_drew));exact HL59_0.out) (Kd.R_base ho0) hb);replace BK53:=zw BK53 hb;replace HB:=zu hb;clear hb;(try clear ho0);obtain ⟨Ao23,co23,eo23⟩:=Kd.R_slice HO88.out;subst eo23;have hcz24_0:=zc0 BK53;have hcz24_1:=zc1 BK53;have hcz24_2:=zc2 BK53;have hfz24_0:=zf BK53))
   (try simp only [Act.put,zi,zs,zt]);have H:=HC13.out;clear HC13
   rcases ife H with ⟨c25b0,c25b1,H⟩|⟨c25,c25b0,c25b1,H⟩
   ·(first|rw [c25b0]|(simp only [i64_w,i32_w];rw [c25b0])|skip)
    (try rw [c25b1]);have H':=zA H;clear H
    go_wp2
    go_loopg [44] k (fun kq v44 w'=>∃ (x44_1:Int) (x60_1:List Int) (u60:Value),v44=.int .i64 x44_1∧Aside0 (conflict_Smallest.l0 kq t69 (t69.length:Int) x44_1 (rd_L1 t65 0) t66 x60_1=some (r1,r2,r3,r4))∧Aside0 (kq≤k)∧Aside0 (Kd.N k49 49 w' w.heap.size (fun k_=>(P0_ k_∨w.heap.size≤k_)∧some k_≠((.slice Ao23 t66.length co23):Value).ownBlock∧some k_≠(u60:Value).ownBlock∧k_≠gb57∧k_≠gb53) (.slice Ao21 t69.length co21) t69)∧Aside0 (Kd.V (Kd.int .i64) 3 w' w.heap.size (fun k_=>(P0_ k_∨w.heap.size≤k_)∧some k_≠((.slice Ao21 t69.length co21):Value).ownBlock∧some k_≠((.slice Ao23 t66.length co23):Value).ownBlock∧some k_≠(u60:Value).ownBlock∧k_≠gb57∧k_≠gb53) (.slice A59_0 (rd_L1 t65 0).length c59_0) (rd_L1 t65 0))∧Aside0 (Kd.R k96 96 w' w.heap.size (fun k_=>(w.heap.size≤k_)) (.slice Ao23 t66.length co23) t66)∧Aside0 (Kd.R (Kd.int .i64) 3 w' w.heap.size (fun k_=>(w.heap.size≤k_)) u60 x60_1)∧Aside0 (w'.heap[gb57]?=some (.cells #[(.slice none 0 0),(.slice none 0 0),(.slice none 0 0)] 28 (0,0)))∧Aside0 (w'.heap[gb53]?=some (.cells #[(.slice A59_0 (rd_L1 t65 0).length c59_0),(.slice Ao23 t66.length co23),u60] 28 (0,0)))∧Aside0 (Below w.heap.size w w'))
    case atStart=>exact ⟨(0),(([]:List Int)),(.slice none 0 0),zT,H',⟨Nat.le_refl _⟩,⟨by (with_reducible repeat (first|apply Kd.N_alloc|apply Kd.N_drewN|apply Kd.N_drew));exact Kd.N_mono (Kd.N_far (p:=⟨gb53,1,none⟩) (Kd.N_mono HO83.out (fun k_ hk=>(⟨hk,hk.1.2.2.2⟩:_∧k_≠gb53))) (fun _ hk=>hk.2) (.slice Ao23 t66.length co23)) (fun _ hk=>⟨hk.1.1.1,⟨hk.1.2,⟨(by simp [Value.ownBlock]),⟨hk.1.1.2.2.1,hk.1.1.2.2.2⟩⟩⟩⟩)⟩,⟨by (with_reducible repeat (first|apply Kd.V_alloc|apply Kd.V_drewN|apply Kd.V_drew));exact Kd.V_mono (Kd.V_far (p:=⟨gb53,1,none⟩) (Kd.V_mono HL59_0.out (fun k_ hk=>(⟨hk,hk.1.1.2.2.2⟩:_∧k_≠gb53))) (fun _ hk=>hk.2) (.slice Ao23 t66.length co23)) (fun _ hk=>⟨hk.1.1.1.1,⟨hk.1.1.2,⟨hk.1.2,⟨(by simp [Value.ownBlock]),⟨hk.1.1.1.2.2.1,hk.1.1.1.2.2.2⟩⟩⟩⟩⟩)⟩,⟨by refine zr ?_;exact Kd.R_mono (Kd.R_far (p:=⟨gb53,1,none⟩) (Kd.R_types HO88.out BK53.out (by decide)) (fun _ hk=>hk.2) (.slice Ao23 t66.length co23)) (fun _ hk=>hk.1.1)⟩,⟨by first|exact Kd.R_nil _ _ _ _ _|exact Kd.N_nil _ _ _ _ _|exact Kd.V_nil _ _ _ _ _|exact Kd.Q_nil _ _ _ _ _|exact Kd.S_nil _ _ _ _ _⟩,⟨by refine zj ?_;refine blk_far ?_ NB57_53.out _;refine zj ?_;exact BK57.out⟩,⟨by refine zj ?_;refine blk_put (cs:=#[.slice A59_0 (rd_L1 t65 0).length c59_0,.slice none 0 0,.slice none 0 0]) ?_ 1 _ rfl;refine zj ?_;exact BK53.out⟩,⟨zv2 HB GE57 GE53⟩⟩
    case round=>
     clear H'
     try clear c6
     try clear c6b0
     try clear c6b1
     try clear c7
     try clear c7b0
     try clear c7b1
     try clear c7b2
     try clear c10
     try clear c10b0
     try clear c10b1
     try clear c25
     try clear c25b0
     try clear c25b1
     try clear hcz17_0
     try clear hcz17_1
     try clear hcz17_2
     try clear hcz19_0
     try clear hcz19_1
     try clear hcz19_2
     try clear hcz24_0
     try clear hcz24_1
     try clear hcz24_2
     try clear hfz17_0
     try clear hfz17_1
     try clear hfz17_2
     try clear hfz19_0
     try clear hfz19_1
     try clear hfz19_2
     try clear hfz24_0
     try clear hfz24_1
     try clear hfz24_2
     try clear hx59_0
     try clear p59
     try clear q59
     obtain ⟨x44_1,x60_1,u60,rfl,HA,HK1,HO_7,HO_68,HO_67,HO_60,BK57,BK53,HB⟩:=hrel
     cases gk with
     | zero=>exact absurd HA.out (by simp [conflict_Smallest.l0])
     | succ k1=>
      have H:=HA.out;clear HA;simp only [conflict_Smallest.l0] at H
      rcases ifd H with ⟨c26b0,H⟩|⟨c26b0,H⟩
      ·obtain ⟨t82,A27,H⟩:=zo H;obtain ⟨t78,A28,H⟩:=zo H;obtain ⟨t74,t93,A29,H⟩:=zO H
       dsimp only at H
       have HC30:=zA H;clear H
       go_upto_if 58 with (first|((with_reducible refine gate_callee (f:=36) rfl ?_);refine zgo 49 Tryz.func36 #[.slice Ao21 t69.length co21] ?_;(with_reducible refine (api_Table_36.calls (fun k_=>((P0_ k_∨w.heap.size≤k_)∧(some k_≠(.slice Ao23 t66.length co23:Value).ownBlock∧(some k_≠(u60:Value).ownBlock∧(k_≠gb57∧k_≠gb53))))) _ _ t69 t82 _ ?side1 A27.out).mono ?_);(case side1=>exact Kd.N_V (HO_7.out));rintro e w31 ⟨v360,rfl,ho0,hb⟩;refine ⟨_,rfl,?_⟩;have HO79:=zA (Kd.N_lower (Kd.N_mono (ok':=fun k_=>(P0_ k_∨w.heap.size≤k_)∧some k_≠(.slice Ao23 t66.length co23:Value).ownBlock∧some k_≠(u60:Value).ownBlock∧k_≠gb57∧k_≠gb53) ho0 (fun k_ hk_=>⟨Or.elim hk_ (fun hs_=>hs_.1) (fun hn_=>(.inr (Nat.le_trans (below_size zB) hn_))),Or.elim hk_ (fun hs_=>hs_.2.1) (fun hn_=>(Kd.fresh' (Kd.R_lt (zR HO_67)) k_ hn_)),Or.elim hk_ (fun hs_=>hs_.2.2.1) (fun hn_=>(Kd.fresh' (Kd.R_lt (zR HO_60)) k_ hn_)),Or.elim hk_ (fun hs_=>hs_.2.2.2.1) (fun hn_=>(Kd.freshB (g:=gb57) (o:=.cells #[.slice none 0 0,.slice none 0 0,.slice none 0 0] 28 (0,0)) (zk BK57) k_ hn_)),Or.elim hk_ (fun hs_=>hs_.2.2.2.2) (fun hn_=>(Kd.freshB (g:=gb53) (o:=.cells #[.slice A59_0 (rd_L1 t65 0).length c59_0,.slice Ao23 t66.length co23,u60] 28 (0,0)) (zk BK53) k_ hn_))⟩)) (below_size zB));replace HO_7:=zA (Kd.N_elder' (zN HO_7) (Kd.N_base ho0) hb);replace HO_68:=zA (Kd.V_elder' (zV HO_68) (Kd.N_base ho0) hb);replace HO_67:=zA (Kd.R_below (zR HO_67) hb);replace HO_60:=zA (Kd.R_below (zR HO_60) hb);replace BK57:=zw BK57 hb;replace BK53:=zw BK53 hb;replace HB:=zu hb;clear hb;(try clear ho0);obtain ⟨Ao32,co32,eo32⟩:=Kd.N_slice HO79.out;subst eo32)|((with_reducible refine gate_callee (f:=35) rfl ?_);refine zgo 53 Tryz.func35 #[.slice Ao32 t82.length co32,.int .i64 x44_1,.int .i64 (wrap64 (x44_1+1))] ?_;(with_reducible refine (api_Table_35.calls (fun k_=>(((P0_ k_∨w.heap.size≤k_))∧(some k_≠(.slice Ao23 t66.length co23:Value).ownBlock∧(some k_≠(u60:Value).ownBlock∧(k_≠gb57∧k_≠gb53))))) (.slice Ao32 t82.length co32) t82 x44_1 (wrap64 (x44_1+1)) t78 w _ ?side1 ?side2 A28.out).mono ?_);(case side1=>repeat (first|(with_reducible first|exact HB.out|apply below_alloc|apply pw_below_drewN|apply below_drew1|refine below_set ?_ GE57.out|refine below_set ?_ GE53.out)|exact HB.out));(case side2=>((with_reducible repeat (first|apply Kd.N_alloc|apply Kd.N_drewN|apply Kd.N_drew));exact HO79.out));rintro e w33 ⟨v89,rfl,ho0,hb,hkp,hown_⟩;refine ⟨_,rfl,?_⟩;have HO80:=zA (ho0);replace HO_7:=zA (Kd.N_mono (ok':=fun k_=>(P0_ k_∨w.heap.size≤k_)∧some k_≠(.slice Ao23 t66.length co23:Value).ownBlock∧some k_≠(u60:Value).ownBlock∧k_≠gb57∧k_≠gb53∧some k_≠(v89:Value).ownBlock) (Kd.N_keptB (HO_7.out) hkp (fun k_ hk_ hs_=>(hk_.2) hs_)) (fun k_ hk_=>⟨hk_.1.1.1,hk_.1.1.2.1,hk_.1.1.2.2.1,hk_.1.1.2.2.2.1,hk_.1.1.2.2.2.2,fun e_=>(hk_.1.2) (e_.trans hown_)⟩));replace HO_68:=zA (Kd.V_mono (ok':=fun k_=>(P0_ k_∨w.heap.size≤k_)∧some k_≠(.slice Ao21 t69.length co21:Value).ownBlock∧some k_≠(.slice Ao23 t66.length co23:Value).ownBlock∧some k_≠(u60:Value).ownBlock∧k_≠gb57∧k_≠gb53∧some k_≠(v89:Value).ownBlock) (Kd.V_keptB (HO_68.out) hkp (fun k_ hk_ hs_=>(hk_.2) hs_)) (fun k_ hk_=>⟨hk_.1.1.1,hk_.1.1.2.1,hk_.1.1.2.2.1,hk_.1.1.2.2.2.1,hk_.1.1.2.2.2.2.1,hk_.1.1.2.2.2.2.2,fun e_=>(hk_.1.2) (e_.trans hown_)⟩));replace HO_67:=zA (Kd.R_mono (ok':=fun k_=>(w.heap.size≤k_)) (Kd.R_keptB ((Kd.R_apart' HO_67.out (Kd.N_typed HO79.out) (by decide))) hkp (fun k_ hk_ hs_=>(hk_.2) hs_)) (fun k_ hk_=>hk_.1.1));replace HO_60:=zA (Kd.R_mono (ok':=fun k_=>(w.heap.size≤k_)) (Kd.R_keptB ((Kd.R_apart' HO_60.out (Kd.N_typed HO79.out) (by decide))) hkp (fun k_ hk_ hs_=>(hk_.2) hs_)) (fun k_ hk_=>hk_.1.1));replace BK57:=zA (blk_kept (zk BK57) hkp (fun hs_=>(fun e_=>(Kd.N_ne HO79.out BK57.out (by decide)) e_) hs_));replace BK53:=zA (blk_kept (zk BK53) hkp (fun hs_=>(fun e_=>(Kd.N_ne HO79.out BK53.out (by decide)) e_) hs_));replace HB:=zA (hb);clear HO79;(try clear hb);(try clear hkp);(try clear hown_);(try clear ho0);obtain ⟨Ao34,co34,eo34⟩:=Kd.N_slice HO80.out;subst eo34)|((with_reducible refine gate_callee (f:=47) rfl ?_);refine zgo 54 Tryz.func47 #[.slice Ao34 t78.length co34] ?_;(with_reducible refine (solve_First.calls k1 _ _ t78 t74 t93 _ ?side1 ?side2 A29.out).mono ?_);(case side1=>exact zC (Kd.N_reads' HO80.out).2.2);(case side2=>exact (Kd.N_reads' HO80.out).2.1);rintro e w35 ⟨rfl,hb⟩;refine ⟨_,rfl,?_⟩;replace HO_7:=zA (Kd.N_below (zN HO_7) hb);replace HO_68:=zA (Kd.V_below (zV HO_68) hb);replace HO_67:=zA (Kd.R_below (zR HO_67) hb);replace HO_60:=zA (Kd.R_below (zR HO_60) hb);replace HO80:=zA (Kd.N_below (zN HO80) hb);replace BK57:=zw BK57 hb;replace BK53:=zw BK53 hb;replace HB:=zu hb;clear hb))
       (try simp only [Act.put,zi,zs,zt]);have H:=HC30.out;clear HC30
       rcases ife H with ⟨c36b0,c36b1,H⟩|⟨c36,c36b0,c36b1,H⟩
       ·(first|rw [c36b0]|(simp only [i64_w,i32_w];rw [c36b0])|skip)
        (try rw [c36b1]);obtain ⟨c37,H⟩:=if1 H;have LMc37:=zA c37;clear c37
        first|(replace H:=zyb (x60_1++[t74]) H;obtain ⟨y73,Ny73,H⟩:=H)|(obtain ⟨y73,hy73⟩:=zY (x60_1++[t74]);(try rw (occs:=.pos [1]) [← hy73] at H);have Ny73:=zA hy73;clear hy73)
        have H':=zA H;clear H;have hnb38:=NB53_57.out;have hnc38:=NB57_53.out;have hcz39_0:=zc0 BK53;have hcz39_1:=zc1 BK53;have hcz39_2:=zc2 BK53;have hfz39_0:=zf BK53
        go_wp2_with (first|((with_reducible refine gate_builtin (b:=.append) (xs:=#[.tmp 62,.tmp 64]) rfl ?_);at_builtin;refine Kd.R_append (Kd.int .i64) (w0:=w) w.heap.size rfl (.tmp 62) (.tmp 64) 23 3 (.int .i64 0) 8 rfl Tryz.underlying23 info3 rfl (by decide) (by omega) u60 x60_1 t74 [.int .i64 t74] (fun k_=>(w.heap.size≤k_)) (fun _=>False) rfl rfl ?aP (fun _ hk=>hk.elim) ?aF ?aO ?aB ?aS ?aL ?_;(case aP=>exact rfl);(case aB=>exact zB);(case aF=>exact (fun k_ hk=>(Nat.le_trans (below_size zB) hk)));(case aO=>exact (zR HO_60));(case aS=>exact (below_size zB));(case aL=>have:=LMc37.out;omega);intro v368 w40 ho hb hg hat;rw [← Ny73.out] at ho;have HO90:=zA (ho);replace HO_7:=zA (Kd.N_afterv (ok:=(fun k_=>(P0_ k_∨w.heap.size≤k_)∧some k_≠(.slice Ao23 t66.length co23:Value).ownBlock∧some k_≠(.slice Ao34 t78.length co34:Value).ownBlock∧k_≠gb57∧k_≠gb53)) (by (with_reducible repeat (first|apply Kd.N_alloc|apply Kd.N_drewN|apply Kd.N_drew));exact Kd.N_mono HO_7.out (fun _ hk=>⟨⟨hk.1,⟨hk.2.1,⟨hk.2.2.2.2.2,⟨hk.2.2.2.1,hk.2.2.2.2.1⟩⟩⟩⟩,hk.2.2.1⟩)) hg hat);replace HO_68:=zA (Kd.V_afterv (ok:=(fun k_=>(P0_ k_∨w.heap.size≤k_)∧some k_≠(.slice Ao21 t69.length co21:Value).ownBlock∧some k_≠(.slice Ao23 t66.length co23:Value).ownBlock∧some k_≠(.slice Ao34 t78.length co34:Value).ownBlock∧k_≠gb57∧k_≠gb53)) (by (with_reducible repeat (first|apply Kd.V_alloc|apply Kd.V_drewN|apply Kd.V_drew));exact Kd.V_mono HO_68.out (fun _ hk=>⟨⟨hk.1,⟨hk.2.1,⟨hk.2.2.1,⟨hk.2.2.2.2.2.2,⟨hk.2.2.2.2.1,hk.2.2.2.2.2.1⟩⟩⟩⟩⟩,hk.2.2.2.1⟩)) hg hat);replace HO_67:=zA (Kd.R_over' (zR HO_67) (Kd.R_typed (zR HO_60)) (by decide) hg);replace BK57:=zA (blk_grown (g:=gb57) (o:=.cells #[.slice none 0 0,.slice none 0 0,.slice none 0 0] 28 (0,0)) (zk BK57) hg (Kd.R_ne HO_60.out BK57.out (by decide)));replace BK53:=zA (blk_grown (g:=gb53) (o:=.cells #[.slice A59_0 (rd_L1 t65 0).length c59_0,.slice Ao23 t66.length co23,u60] 28 (0,0)) (zk BK53) hg (Kd.R_ne HO_60.out BK53.out (by decide)));replace HO80:=zA (Kd.N_afterv (ok:=(fun k_=>(P0_ k_∨w.heap.size≤k_)∧some k_≠(.slice Ao23 t66.length co23:Value).ownBlock∧k_≠gb57∧k_≠gb53)) (by (with_reducible repeat (first|apply Kd.N_alloc|apply Kd.N_drewN|apply Kd.N_drew));exact Kd.N_mono HO80.out (fun _ hk=>⟨⟨hk.1,⟨hk.2.1,⟨hk.2.2.2.1,hk.2.2.2.2⟩⟩⟩,hk.2.2.1⟩)) hg hat);replace HB:=zA (hb);clear HO_60;clear ho hb hg hat;obtain ⟨Ao41,co41,eo41⟩:=Kd.R_slice HO90.out;subst eo41;have hcz42_0:=zc0 BK53;have hcz42_1:=zc1 BK53;have hcz42_2:=zc2 BK53;have hfz42_0:=zf BK53))
        go_roundg k1
        case measure=>have:=HK1.out;omega
        case rel=>exact ⟨(wrap64 (x44_1+1)),(y73),(.slice Ao41 y73.length co41),zT,H',⟨by have:=HK1.out;omega⟩,⟨by (with_reducible repeat (first|apply Kd.N_alloc|apply Kd.N_drewN|apply Kd.N_drew));exact Kd.N_mono (Kd.N_far (p:=⟨gb53,2,none⟩) (Kd.N_mono HO_7.out (fun k_ hk=>(⟨hk,hk.1.2.2.2.2⟩:_∧k_≠gb53))) (fun _ hk=>hk.2) (.slice Ao41 y73.length co41)) (fun _ hk=>⟨hk.1.1.1,⟨hk.1.1.2.1,⟨hk.1.2,⟨hk.1.1.2.2.2.1,hk.1.1.2.2.2.2⟩⟩⟩⟩)⟩,⟨by (with_reducible repeat (first|apply Kd.V_alloc|apply Kd.V_drewN|apply Kd.V_drew));exact Kd.V_mono (Kd.V_far (p:=⟨gb53,2,none⟩) (Kd.V_mono HO_68.out (fun k_ hk=>(⟨hk,hk.1.2.2.2.2.2⟩:_∧k_≠gb53))) (fun _ hk=>hk.2) (.slice Ao41 y73.length co41)) (fun _ hk=>⟨hk.1.1.1,⟨hk.1.1.2.1,⟨hk.1.1.2.2.1,⟨hk.1.2,⟨hk.1.1.2.2.2.2.1,hk.1.1.2.2.2.2.2⟩⟩⟩⟩⟩)⟩,⟨by refine zr ?_;exact Kd.R_mono (Kd.R_far (p:=⟨gb53,2,none⟩) (Kd.R_types HO_67.out BK53.out (by decide)) (fun _ hk=>hk.2) (.slice Ao41 y73.length co41)) (fun _ hk=>hk.1)⟩,⟨by refine zr ?_;exact Kd.R_mono (Kd.R_far (p:=⟨gb53,2,none⟩) (Kd.R_types HO90.out BK53.out (by decide)) (fun _ hk=>hk.2) (.slice Ao41 y73.length co41)) (fun _ hk=>hk.1)⟩,⟨by refine zj ?_;refine blk_far ?_ NB57_53.out _;refine zj ?_;exact BK57.out⟩,⟨by refine zj ?_;refine blk_put (cs:=#[.slice A59_0 (rd_L1 t65 0).length c59_0,.slice Ao23 t66.length co23,u60]) ?_ 2 _ rfl;refine zj ?_;exact BK53.out⟩,⟨zv2 HB GE57 GE53⟩⟩
       ·(first|rw [c36b0]|(simp only [i64_w,i32_w];rw [c36b0])|skip)
        (try rw [c36b1]);simp only [Option.some.injEq,Prod.mk.injEq] at H;obtain ⟨rfl,rfl,rfl,rfl⟩:=H;have hnb43:=NB57_53.out;have hnc43:=NB53_57.out;have hcz44_0:=zc0 BK57;have hcz44_1:=zc1 BK57;have hcz44_2:=zc2 BK57;have hfz44_0:=zf BK57
        go_wp2
        refine bodyPost_ret (results_ct rfl _ _ gb57 28 #[.slice none 0 0,.slice none 0 0,.slice none 0 0] (0,0) _ rfl (by refine zj ?_;refine blk_put (cs:=#[.slice none 0 0,.slice none 0 0,.slice none 0 0]) ?_ 2 _ rfl;refine zj ?_;refine blk_put (cs:=#[.slice none 0 0,.slice none 0 0,.slice none 0 0]) ?_ 1 _ rfl;refine zj ?_;refine blk_put (cs:=#[.slice none 0 0,.slice none 0 0,.slice none 0 0]) ?_ 0 _ rfl;refine zj ?_;exact BK57.out) Tryz.underlying28 rfl zK) rfl ?_;exact ⟨_,_,_,ze,(Kd.V_nil _ _ _ _ _),by first|exact Kd.R_nil _ _ _ _ _|exact Kd.N_nil _ _ _ _ _|exact Kd.V_nil _ _ _ _ _|exact Kd.Q_nil _ _ _ _ _|exact Kd.S_nil _ _ _ _ _,by first|exact Kd.R_nil _ _ _ _ _|exact Kd.N_nil _ _ _ _ _|exact Kd.V_nil _ _ _ _ _|exact Kd.Q_nil _ _ _ _ _|exact Kd.S_nil _ _ _ _ _,zv2 HB GE57 GE53⟩
      ·simp only [Option.some.injEq,Prod.mk.injEq] at H;obtain ⟨rfl,rfl,rfl,rfl⟩:=H;have hnb45:=NB53_57.out;have hnc45:=NB57_53.out;have hcz46_0:=zc0 BK53;have hcz46_1:=zc1 BK53;have hcz46_2:=zc2 BK53;have hfz46_0:=zf BK53;have hcz47_0:=zc0 BK57;have hcz47_1:=zc1 BK57;have hcz47_2:=zc2 BK57;have hfz47_0:=zf BK57;obtain ⟨Ao48,co48,eo48⟩:=Kd.R_slice HO_60.out;subst eo48
       go_wp2
       refine bodyPost_ret (results_ct rfl _ _ gb57 28 #[.slice A59_0 (rd_L1 t65 0).length c59_0,.slice Ao23 t66.length co23,.slice Ao48 x60_1.length co48] (0,0) _ rfl (by refine zj ?_;refine blk_put (cs:=#[.slice A59_0 (rd_L1 t65 0).length c59_0,.slice Ao23 t66.length co23,.slice none 0 0]) ?_ 2 _ rfl;refine zj ?_;refine blk_put (cs:=#[.slice A59_0 (rd_L1 t65 0).length c59_0,.slice none 0 0,.slice none 0 0]) ?_ 1 _ rfl;refine zj ?_;refine blk_put (cs:=#[.slice none 0 0,.slice none 0 0,.slice none 0 0]) ?_ 0 _ rfl;refine zj ?_;exact BK57.out) Tryz.underlying28 rfl zK) rfl ?_;exact ⟨_,_,_,ze,by (with_reducible repeat (first|apply Kd.V_alloc|apply Kd.V_drewN|apply Kd.V_drew));exact Kd.V_mono (Kd.V_far (p:=⟨gb57,2,none⟩) (Kd.V_far (p:=⟨gb57,1,none⟩) (Kd.V_far (p:=⟨gb57,0,none⟩) (Kd.V_mono HO_68.out (fun k_ hk=>(⟨hk,hk.2.2.2.2.1⟩:_∧k_≠gb57))) (fun _ hk=>hk.2) (.slice A59_0 (rd_L1 t65 0).length c59_0)) (fun _ hk=>hk.2) (.slice Ao23 t66.length co23)) (fun _ hk=>hk.2) (.slice Ao48 x60_1.length co48)) (fun _ hk=>⟨hk.1.1,⟨hk.1.2.2.1,hk.1.2.2.2.1⟩⟩),by refine zr ?_;exact Kd.R_mono (Kd.R_far (p:=⟨gb57,2,none⟩) (Kd.R_far (p:=⟨gb57,1,none⟩) (Kd.R_far (p:=⟨gb57,0,none⟩) (Kd.R_types HO_67.out BK57.out (by decide)) (fun _ hk=>hk.2) (.slice A59_0 (rd_L1 t65 0).length c59_0)) (fun _ hk=>hk.2) (.slice Ao23 t66.length co23)) (fun _ hk=>hk.2) (.slice Ao48 x60_1.length co48)) (fun _ hk=>hk.1),by refine zr ?_;exact Kd.R_mono (Kd.R_far (p:=⟨gb57,2,none⟩) (Kd.R_far (p:=⟨gb57,1,none⟩) (Kd.R_far (p:=⟨gb57,0,none⟩) (Kd.R_types HO_60.out BK57.out (by decide)) (fun _ hk=>hk.2) (.slice A59_0 (rd_L1 t65 0).length c59_0)) (fun _ hk=>hk.2) (.slice Ao23 t66.length co23)) (fun _ hk=>hk.2) (.slice Ao48 x60_1.length co48)) (fun _ hk=>hk.1),zv2 HB GE57 GE53⟩
   ·(first|rw [c25b0]|(simp only [i64_w,i32_w];rw [c25b0])|skip)
    (try rw [c25b1]);simp only [Option.some.injEq,Prod.mk.injEq] at H;obtain ⟨rfl,rfl,rfl,rfl⟩:=H;have hnb49:=NB57_53.out;have hnc49:=NB53_57.out;have hcz50_0:=zc0 BK57;have hcz50_1:=zc1 BK57;have hcz50_2:=zc2 BK57;have hfz50_0:=zf BK57
    go_wp2
    refine bodyPost_ret (results_ct rfl _ _ gb57 28 #[.slice none 0 0,.slice none 0 0,.slice none 0 0] (0,0) _ rfl (by refine zj ?_;refine blk_put (cs:=#[.slice none 0 0,.slice none 0 0,.slice none 0 0]) ?_ 2 _ rfl;refine zj ?_;refine blk_put (cs:=#[.slice none 0 0,.slice none 0 0,.slice none 0 0]) ?_ 1 _ rfl;refine zj ?_;refine blk_put (cs:=#[.slice none 0 0,.slice none 0 0,.slice none 0 0]) ?_ 0 _ rfl;refine zj ?_;refine blk_far ?_ NB57_53.out _;refine zj ?_;exact BK57.out) Tryz.underlying28 rfl zK) rfl ?_;exact ⟨_,_,_,ze,(Kd.V_nil _ _ _ _ _),by first|exact Kd.R_nil _ _ _ _ _|exact Kd.N_nil _ _ _ _ _|exact Kd.V_nil _ _ _ _ _|exact Kd.Q_nil _ _ _ _ _|exact Kd.S_nil _ _ _ _ _,by first|exact Kd.R_nil _ _ _ _ _|exact Kd.N_nil _ _ _ _ _|exact Kd.V_nil _ _ _ _ _|exact Kd.Q_nil _ _ _ _ _|exact Kd.S_nil _ _ _ _ _,zv2 HB GE57 GE53⟩
 ·(first|rw [c6b0]|(simp only [i64_w,i32_w];rw [c6b0])|skip)
  (try rw [c6b1]);simp only [Option.some.injEq,Prod.mk.injEq] at H;obtain ⟨rfl,rfl,rfl,rfl⟩:=H;have hcz51_0:=zc0 BK57;have hcz51_1:=zc1 BK57;have hcz51_2:=zc2 BK57;have hfz51_0:=zf BK57
  go_wp2
  refine bodyPost_ret (results_ct rfl _ _ gb57 28 #[.slice none 0 0,.slice none 0 0,.slice none 0 0] (0,0) _ rfl (by refine zj ?_;refine blk_put (cs:=#[.slice none 0 0,.slice none 0 0,.slice none 0 0]) ?_ 2 _ rfl;refine zj ?_;refine blk_put (cs:=#[.slice none 0 0,.slice none 0 0,.slice none 0 0]) ?_ 1 _ rfl;refine zj ?_;refine blk_put (cs:=#[.slice none 0 0,.slice none 0 0,.slice none 0 0]) ?_ 0 _ rfl;refine zj ?_;exact BK57.out) Tryz.underlying28 rfl zK) rfl ?_;exact ⟨_,_,_,ze,(Kd.V_nil _ _ _ _ _),by first|exact Kd.R_nil _ _ _ _ _|exact Kd.N_nil _ _ _ _ _|exact Kd.V_nil _ _ _ _ _|exact Kd.Q_nil _ _ _ _ _|exact Kd.S_nil _ _ _ _ _,by first|exact Kd.R_nil _ _ _ _ _|exact Kd.N_nil _ _ _ _ _|exact Kd.V_nil _ _ _ _ _|exact Kd.Q_nil _ _ _ _ _|exact Kd.S_nil _ _ _ _ _,zv1 HB GE57⟩
def conflict_others.l0:Nat→List Int→List Int→Int→Int→Option (List Int)
 | 0,_,_,_,_=>none
 | k+1,x1,x5,x7,x8=>if x8<x7 then ((slices_Contains_int_int.f k x1 x8).bind fun t85=>(if t85=true then (conflict_others.l0 k x1 x5 x7 (wrap64 (x8+1))) else (if x5.length<17592186044416 then (conflict_others.l0 k x1 (x5++[x8]) x7 (wrap64 (x8+1))) else (none)))) else (some x5)
def conflict_others.f (k:Nat) (a0:Int) (l1:List Int):Option (List Int):=conflict_others.l0 k l1 ([]:List Int) a0 0
set_option maxHeartbeats 8000000 in
set_option maxRecDepth 100000 in
theorem conflict_others.calls (k:Nat) (a0:Int) (A1:Option Addr) (c1:Nat) (l1:List Int) (r:List Int) (w:World) (hr1:Kd.C (Kd.int .i64) w A1 l1.length l1) (hc1:l1.length≤c1) (h:conflict_others.f k a0 l1=some r) :
  Calls Tryz.prog 56 #[.int .i64 a0,.slice A1 l1.length c1] w fun e w'=>∃ v0_:Value,e=.returned (v0_)∧Kd.R (Kd.int .i64) 3 w' w.heap.size (fun _=>True) v0_ r∧Below w.heap.size w w':=by
 have HR1:=zA hr1;have HC1:=zA hc1;clear hr1 hc1;have HB:=zA (Below.refl w.heap.size w);have H:(conflict_others.l0 k l1 ([]:List Int) a0 0)=some r:=h;clear h;have H':=zA H;clear H
 go_enter Tryz.func56,Tryz.ntmps56
 go_wp2
 go_loopg [5,8] k (fun kq v5 v8 w'=>∃ (x5_1:List Int) (x8_1:Int),v8=.int .i64 x8_1∧Aside0 (conflict_others.l0 kq l1 x5_1 a0 x8_1=some r)∧Aside0 (kq≤k)∧Aside0 (Kd.R (Kd.int .i64) 3 w' w.heap.size (fun _=>True) v5 x5_1)∧Aside0 (Below w.heap.size w w'))
 case atStart=>exact ⟨(([]:List Int)),(0),zT,H',⟨Nat.le_refl _⟩,⟨by first|exact Kd.R_nil _ _ _ _ _|exact Kd.N_nil _ _ _ _ _|exact Kd.V_nil _ _ _ _ _|exact Kd.Q_nil _ _ _ _ _|exact Kd.S_nil _ _ _ _ _⟩,⟨zv0 HB⟩⟩
 case round=>
  clear H';obtain ⟨x5_1,x8_1,rfl,HA,HK1,HO_5,HB⟩:=hrel
  cases gk with
  | zero=>exact absurd HA.out (by simp [conflict_others.l0])
  | succ k1=>
   have H:=HA.out;clear HA;simp only [conflict_others.l0] at H
   rcases ifd H with ⟨c3b0,H⟩|⟨c3b0,H⟩
   ·obtain ⟨t85,A4,H⟩:=zo H;have HC5:=zA H;clear H
    go_upto_if 14 with (first|((with_reducible refine gate_callee (f:=72) rfl ?_);refine zgo 13 Tryz.func72 #[.slice A1 l1.length c1,.int .i64 x8_1] ?_;(with_reducible refine (slices_Contains_int_int.calls k1 _ _ l1 x8_1 t85 _ (zD HR1 HB) HC1.out A4.out).mono ?_);rintro e w' ⟨rfl,⟨nd,rfl⟩⟩;refine ⟨_,rfl,?_⟩))
    (try simp only [Act.put,zi,zs,zt]);have H:=HC5.out;clear HC5
    by_cases c6:t85=true
    ·subst c6
     have H1:(conflict_others.l0 k1 l1 x5_1 a0 (wrap64 (x8_1+1)))=some r:=by rw [if_pos rfl] at H;exact H
     clear H;have H:=H1;clear H1;have H':=zA H;clear H
     go_wp2
     go_roundg k1
     case measure=>have:=HK1.out;omega
     case rel=>exact ⟨(x5_1),(wrap64 (x8_1+1)),zT,H',⟨by have:=HK1.out;omega⟩,⟨by refine zr ?_;exact HO_5.out⟩,⟨zv0 HB⟩⟩
    ·replace c6:=Bool.eq_false_iff.mpr c6;subst c6
     have H1:(if x5_1.length<17592186044416 then (conflict_others.l0 k1 l1 (x5_1++[x8_1]) a0 (wrap64 (x8_1+1))) else (none))=some r:=by rw [if_neg (show ¬ (false=true) by decide)] at H;exact H
     clear H;have H:=H1;clear H1;obtain ⟨c7,H⟩:=if1 H;have LMc7:=zA c7;clear c7
     first|(replace H:=zyb (x5_1++[x8_1]) H;obtain ⟨y75,Ny75,H⟩:=H)|(obtain ⟨y75,hy75⟩:=zY (x5_1++[x8_1]);(try rw (occs:=.pos [1]) [← hy75] at H);have Ny75:=zA hy75;clear hy75)
     have H':=zA H;clear H
     go_wp2_with (first|((with_reducible refine gate_builtin (b:=.append) (xs:=#[.tmp 15,.tmp 17]) rfl ?_);at_builtin;refine Kd.R_append (Kd.int .i64) (w0:=w) w.heap.size rfl (.tmp 15) (.tmp 17) 23 3 (.int .i64 0) 8 rfl Tryz.underlying23 info3 rfl (by decide) (by omega) u5 x5_1 x8_1 [.int .i64 x8_1] (fun _=>True) (fun _=>False) rfl rfl ?aP (fun _ hk=>hk.elim) ?aF ?aO ?aB ?aS ?aL ?_;(case aP=>exact rfl);(case aB=>exact zB);(case aF=>exact (fun _ _=>trivial));(case aO=>exact (zR HO_5));(case aS=>exact (below_size zB));(case aL=>have:=LMc7.out;omega);intro v372 w8 ho hb hg hat;rw [← Ny75.out] at ho;have HO94:=zA (ho);replace HB:=zA (hb);clear HO_5;clear ho hb hg hat))
     go_roundg k1
     case measure=>have:=HK1.out;omega
     case rel=>exact ⟨(y75),(wrap64 (x8_1+1)),zT,H',⟨by have:=HK1.out;omega⟩,⟨by refine zr ?_;exact HO94.out⟩,⟨zv0 HB⟩⟩
   ·obtain rfl:=Option.some.inj H
    go_wp2
    go_ret
    exact ⟨_,ze,by refine zr ?_;exact HO_5.out,zv0 HB⟩
def conflict_Repairs_1_v1.f (k:Nat) (l0:List Int) (l1_0:List (S49)):Option (Bool):=(conflict_others.f k (l1_0.length:Int) l0).bind fun t62=>((conflict_solvable.f k l1_0 t62).bind fun t58=>(some t58))
set_option maxHeartbeats 8000000 in
set_option maxRecDepth 100000 in
theorem conflict_Repairs_1_v1.calls (k:Nat) (A0:Option Addr) (c0:Nat) (l0:List Int) (gp1_0:Nat) (A1_0:Option Addr) (c1_0:Nat) (l1_0:List (S49)) (r:Bool) (w:World) (hr0:Kd.C (Kd.int .i64) w A0 l0.length l0) (hc0:l0.length≤c0) (hr1_0:Kd.C k49 w A1_0 l1_0.length l1_0) (hc1_0:l1_0.length≤c1_0) (hb_gp1_0:w.heap[gp1_0]?=some (.cells #[.slice A1_0 l1_0.length c1_0] 22 (0,0))) (h:conflict_Repairs_1_v1.f k l0 l1_0=some r) :
  Calls Tryz.prog 55 #[.slice A0 l0.length c0,.pointer (some ⟨gp1_0,0,none⟩)] w fun e w'=>e=.returned (.bool r)∧Below w.heap.size w w':=by
 have HR0:=zA hr0;have HC0:=zA hc0;clear hr0 hc0;have HR1_0:=zA hr1_0;have HC1_0:=zA hc1_0;clear hr1_0 hc1_0;have BK63:=zA hb_gp1_0;clear hb_gp1_0;have HB:=zA (Below.refl w.heap.size w);have H:((conflict_others.f k (l1_0.length:Int) l0).bind fun t62=>((conflict_solvable.f k l1_0 t62).bind fun t58=>(some t58)))=some r:=h;clear h;obtain ⟨t62,A3,H⟩:=zo H;obtain ⟨t58,A4,H⟩:=zo H;obtain rfl:=Option.some.inj H
 go_enter Tryz.func55,Tryz.ntmps55
 try go_wp2
 replace BK63:=zA (blk_drew BK63.out);replace HB:=zA (below_drew1 HB.out);refine start_ (n:=7) (S:=fun w'=>w'.cell? ⟨gp1_0,0,none⟩=some (.slice A1_0 l1_0.length c1_0)) (ds:=[]) (bz 7 0) zK rfl rfl (zc0 BK63) (fun hHeld=>?_)
 generalize w.drew=w5 at BK63 HB hHeld ⊢
 refine pure_ (i:=3) (N:=some 7) (v:=?_) (a':=?_) (bz 7 8) rfl rfl zK (fun _ _ _ h=>h) (Or.inl ⟨by rfl,?_⟩) ?_ ?_;rotate_left
 ·intro w'
  go_simp
  with_reducible rfl
 rotate_left
 ·simp only [Act.put,zi,zs,zt,i64_w,i32_w];rfl
 refine take_ (i:=0) (N:=some 4) (v:=?_) (a':=?_) (bz 7 9) rfl rfl zK (fun _ _ _ h=>h) (Or.inl ⟨by rfl,?_⟩) hHeld ?_ ?_;rotate_left
 ·intro w' s0
  go_simp
  with_reducible rfl
 rotate_left
 ·simp only [Act.put,zi,zs,zt,i64_w,i32_w];rfl
 refine take_ (i:=1) (N:=some 5) (v:=?_) (a':=?_) (bz 7 11) rfl rfl zK (fun _ _ _ h=>h) (Or.inl ⟨by rfl,?_⟩) hHeld ?_ ?_;rotate_left
 ·intro w' s0
  go_simp
  with_reducible rfl
 rotate_left
 ·simp only [Act.put,zi,zs,zt,i64_w,i32_w];rfl
 refine pure_ (i:=2) (N:=some 6) (v:=?_) (a':=?_) (bz 7 15) rfl rfl zK (fun _ _ _ h=>h) (Or.inl ⟨by rfl,?_⟩) ?_ ?_;rotate_left
 ·intro w'
  go_simp
  with_reducible rfl
 rotate_left
 ·simp only [Act.put,zi,zs,zt,i64_w,i32_w];rfl
 refine one_ (i:=4) (N:=some 8) (bz 7 31) rfl rfl zK (by decide) (fun K hK=>?_);refine goes_ Tryz.func56 zK rfl #[.int .i64 (l1_0.length:Int),.slice A0 l0.length c0] (by rfl) rfl rfl zM ?_
 with_reducible refine (conflict_others.calls k (l1_0.length:Int) _ _ l0 t62 _ ?side1 ?side2 A3.out).mono ?_
 (case side1=>exact zC (Kd.C_below HR0.out HB.out));(case side2=>exact HC0.out);rintro e w6 ⟨v81,rfl,ho0,hb⟩;refine ⟨_,rfl,?_⟩;have HO76:=zA (Kd.R_lower ho0 (below_size zB));replace BK63:=zw BK63 hb;replace HB:=zu hb;(try clear hb);(try clear hb2);(try clear hk);(try clear hi);(try clear ho0);obtain ⟨Ao7,co7,eo7⟩:=Kd.R_slice HO76.out
 (first|subst eo7|(injection eo7 with f1_ f2_ f3_;have f4_:=f1_.symm;have f5_:=f3_.symm;clear f1_ f2_ f3_;subst f4_;subst f5_))
 refine hK.out _ _ (zc0 BK63) (fun hHeld=>?_);clear hK K;refine norm_ (a':=?_) ?_ ?_;rotate_left
 ·show Act.put _ (some 8) _=_
  simp only [Act.put,zi,zs,zt,i64_w,i32_w];rfl
 refine one_ (i:=5) (N:=some 9) (bz 7 63) rfl rfl zK (by decide) (fun K hK=>?_);refine goes_ Tryz.func54 zK rfl #[.slice A1_0 l1_0.length c1_0,.slice Ao7 t62.length co7] (by rfl) rfl rfl zM ?_
 with_reducible refine (conflict_solvable.calls k _ _ l1_0 _ _ t62 t58 _ ?side1 ?side2 ?side3 ?side4 A4.out).mono ?_
 (case side1=>exact zC (Kd.C_below HR1_0.out HB.out));(case side2=>exact HC1_0.out);(case side3=>exact zC (Kd.R_reads' HO76.out).2.2);(case side4=>exact (Kd.R_reads' HO76.out).2.1);rintro e w8 ⟨rfl,hb⟩;refine ⟨_,rfl,?_⟩;replace HO76:=zA (Kd.R_below (zR HO76) hb);replace BK63:=zw BK63 hb;replace HB:=zu hb;(try clear hb);(try clear hb2);(try clear hk);(try clear hi);refine hK.out _ _ (zc0 BK63) (fun hHeld=>?_);clear hK K;refine norm_ (a':=?_) ?_ ?_;rotate_left
 ·show Act.put _ (some 9) _=_
  simp only [Act.put,zi,zs,zt,i64_w,i32_w];rfl
 refine pure_ (i:=6) (N:=some 3) (v:=?_) (a':=?_) (bz 7 127) rfl rfl zK (fun _ _ _ h=>h) (Or.inl ⟨by rfl,?_⟩) ?_ ?_;rotate_left
 ·intro w'
  go_simp
  with_reducible rfl
 rotate_left
 ·simp only [Act.put,zi,zs,zt,i64_w,i32_w];rfl
 refine done_ zK ?_
 try go_wp2
 go_ret
 exact ⟨ze,zv0 HB⟩
mutual
def conflict_least_conflict_Repairs_1.l0:Nat→Int→List (List Int)→Int→Int→List (S49)→Option ((List (List Int)))
 | 0,_,_,_,_,_=>none
 | k+1,x0,x5,x10,x11,x70=>if x11<x10 then ((conflict_sets.f k x0 x11).bind fun t62=>(conflict_least_conflict_Repairs_1.l1 k x0 x5 x10 x11 t62 (t62.length:Int) 0 x70)) else (some x5)
def conflict_least_conflict_Repairs_1.l1:Nat→Int→List (List Int)→Int→Int→List (List Int)→Int→Int→List (S49)→Option ((List (List Int)))
 | 0,_,_,_,_,_,_,_,_=>none
 | k+1,x0,x5,x10,x11,x16,x17,x18,x70=>if x18<x17 then (if 0≤x18 then (if x18<(x16.length:Int) then ((slices_ContainsFunc_int_int_conflict_least_1.f k x5 (rd_L1 x16 x18)).bind fun t86=>(if t86=true then (conflict_least_conflict_Repairs_1.l1 k x0 x5 x10 x11 x16 x17 (wrap64 (x18+1)) x70) else ((conflict_Repairs_1_v1.f k (rd_L1 x16 x18) x70).bind fun t84=>(if t84=true then (if x5.length<5864062014805 then (conflict_least_conflict_Repairs_1.l1 k x0 (x5++[rd_L1 x16 x18]) x10 x11 x16 x17 (wrap64 (x18+1)) x70) else (none)) else (conflict_least_conflict_Repairs_1.l1 k x0 x5 x10 x11 x16 x17 (wrap64 (x18+1)) x70))))) else (none)) else (none)) else (conflict_least_conflict_Repairs_1.l0 k x0 x5 x10 (wrap64 (x11+1)) x70)
end
def conflict_least_conflict_Repairs_1.f (k:Nat) (a0:Int) (l1_0:List (S49)):Option ((List (List Int))):=conflict_least_conflict_Repairs_1.l0 k a0 ([]:List (List Int)) (wrap64 (a0+1)) 0 l1_0
set_option maxHeartbeats 8000000 in
set_option maxRecDepth 100000 in
theorem conflict_least_conflict_Repairs_1.calls (k:Nat) (a0:Int) (gp1_0:Nat) (A1_0:Option Addr) (c1_0:Nat) (l1_0:List (S49)) (r:List (List Int)) (w:World) (hr1_0:Kd.C k49 w A1_0 l1_0.length l1_0) (hc1_0:l1_0.length≤c1_0) (hb_gp1_0:w.heap[gp1_0]?=some (.cells #[.slice A1_0 l1_0.length c1_0] 22 (0,0))) (h:conflict_least_conflict_Repairs_1.f k a0 l1_0=some r) :
  Calls Tryz.prog 52 #[.int .i64 a0,.func (.func 55) #[] #[.pointer (some ⟨gp1_0,0,none⟩)]] w fun e w'=>∃ v0_:Value,e=.returned (v0_)∧Kd.N (Kd.slice 3 (Kd.int .i64)) 23 w' w.heap.size (fun k_=>(w.heap.size≤k_)) v0_ r∧Below w.heap.size w w':=by
 have HR1_0:=zA hr1_0;have HC1_0:=zA hc1_0;clear hr1_0 hc1_0;have BK63:=zA hb_gp1_0;clear hb_gp1_0;have HB:=zA (Below.refl w.heap.size w);have H:(conflict_least_conflict_Repairs_1.l0 k a0 ([]:List (List Int)) (wrap64 (a0+1)) 0 l1_0)=some r:=h;clear h;have H':=zA H;clear H
 go_enter Tryz.func52,Tryz.ntmps52
 go_wp2
 go_loopg [5,11] k (fun kq v5 v11 w'=>∃ (x5_1:List (List Int)) (x11_1:Int),v11=.int .i64 x11_1∧Aside0 (conflict_least_conflict_Repairs_1.l0 kq a0 x5_1 (wrap64 (a0+1)) x11_1 l1_0=some r)∧Aside0 (kq≤k)∧Aside0 (Kd.N (Kd.slice 3 (Kd.int .i64)) 23 w' w.heap.size (fun k_=>(w.heap.size≤k_)∧k_≠gp1_0) v5 x5_1)∧Aside0 (w'.heap[gp1_0]?=some (.cells #[(.slice A1_0 l1_0.length c1_0)] 22 (0,0)))∧Aside0 (Below w.heap.size w w'))
 case atStart=>exact ⟨(([]:List (List Int))),(0),zT,H',⟨Nat.le_refl _⟩,⟨by first|exact Kd.S_nil _ _ _ _ _|exact Kd.N_nil _ _ _ _ _|exact Kd.V_nil _ _ _ _ _|exact Kd.Q_nil _ _ _ _ _|exact Kd.R_nil _ _ _ _ _⟩,⟨by refine zj ?_;exact BK63.out⟩,⟨zv0 HB⟩⟩
 case round=>
  clear H';obtain ⟨x5_1,x11_1,rfl,HA,HK1,HO_5,BK63,HB⟩:=hrel
  cases gk with
  | zero=>exact absurd HA.out (by simp [conflict_least_conflict_Repairs_1.l0])
  | succ k1=>
   have H:=HA.out;clear HA;simp only [conflict_least_conflict_Repairs_1.l0] at H
   rcases ifd H with ⟨c3b0,H⟩|⟨c3b0,H⟩
   ·obtain ⟨t62,A4,H⟩:=zo H;have H':=zA H;clear H
    go_wp2_with (first|((with_reducible refine gate_callee (f:=37) rfl ?_);refine zgo 16 Tryz.func37 #[.int .i64 a0,.int .i64 x11_1] ?_;(with_reducible refine (conflict_sets.calls k1 a0 x11_1 t62 _ A4.out).mono ?_);rintro e w5 ⟨v81,rfl,ho0,hb⟩;refine ⟨_,rfl,?_⟩;have HO76:=zA (Kd.N_lower (Kd.N_mono (ok':=fun k_=>(w.heap.size≤k_)∧some k_≠(u5:Value).ownBlock∧k_≠gp1_0) (Kd.S_N (Kd.S_bound ho0)) (fun k_ hk_=>⟨(Nat.le_trans (below_size zB) hk_.2.1),(Kd.fresh' (Kd.N_lt (zN HO_5)) k_ hk_.2.1),(Kd.freshB (g:=gp1_0) (o:=.cells #[.slice A1_0 l1_0.length c1_0] 22 (0,0)) (zk BK63) k_ hk_.2.1)⟩)) (below_size zB));replace HO_5:=zA (Kd.N_elder' (zN HO_5) (Kd.N_base (Kd.S_N ho0)) hb);replace BK63:=zw BK63 hb;replace HB:=zu hb;clear hb;(try clear ho0);obtain ⟨Ao6,co6,eo6⟩:=Kd.N_slice HO76.out;subst eo6))
    go_loopg [5,18] k1 (fun kq v5 v18 w'=>∃ (x5_2:List (List Int)) (x18_2:Int),v18=.int .i64 x18_2∧Aside0 (conflict_least_conflict_Repairs_1.l1 kq a0 x5_2 (wrap64 (a0+1)) x11_1 t62 (t62.length:Int) x18_2 l1_0=some r)∧Aside0 (kq≤k1)∧Aside0 (Kd.N (Kd.slice 3 (Kd.int .i64)) 23 w' w.heap.size (fun k_=>(w.heap.size≤k_)∧some k_≠((.slice Ao6 t62.length co6):Value).ownBlock∧k_≠gp1_0) v5 x5_2)∧Aside0 (Kd.N (Kd.slice 3 (Kd.int .i64)) 23 w' w.heap.size (fun k_=>(w.heap.size≤k_)∧some k_≠(v5:Value).ownBlock∧k_≠gp1_0) (.slice Ao6 t62.length co6) t62)∧Aside0 (w'.heap[gp1_0]?=some (.cells #[(.slice A1_0 l1_0.length c1_0)] 22 (0,0)))∧Aside0 (Below w.heap.size w w'))
    case atStart=>exact ⟨(x5_1),(0),zT,H',⟨Nat.le_refl _⟩,⟨by (with_reducible repeat (first|apply Kd.N_alloc|apply Kd.N_drewN|apply Kd.N_drew));exact Kd.N_mono HO_5.out (fun _ hk=>⟨hk.1.1,⟨hk.2,hk.1.2⟩⟩)⟩,⟨by (with_reducible repeat (first|apply Kd.N_alloc|apply Kd.N_drewN|apply Kd.N_drew));exact HO76.out⟩,⟨by refine zj ?_;exact BK63.out⟩,⟨zv0 HB⟩⟩
    case round=>
     clear H'
     try clear c3
     try clear c3b0
     obtain ⟨x5_2,x18_2,rfl,HA,HK2,HO_5,HO_16,BK63,HB⟩:=hrel
     cases gk with
     | zero=>exact absurd HA.out (by simp [conflict_least_conflict_Repairs_1.l1])
     | succ k2=>
      have H:=HA.out;clear HA;simp only [conflict_least_conflict_Repairs_1.l1] at H
      rcases ifd H with ⟨c7b0,H⟩|⟨c7b0,H⟩
      ·obtain ⟨c8b0,H⟩:=ifd1 H;obtain ⟨c9b0,H⟩:=ifd1 H;have HC10:=zA H;clear H;obtain ⟨p58,q58,ad58,A58_0,c58_0,e58,hx58_0,hl58_0,hi58_0⟩:=zp (at_L1 (Kd.N_reads' HO_16.out).2.2 x18_2)
       cases e58
       obtain ⟨ce58,hce58,hMe58,hcc58⟩:=Kd.N_get HO_16.out [] x18_2 p58 (by first|exact q58|exact of_decide_eq_true zh|(have e_:=(Kd.N_reads' HO_16.out).1;omega));obtain ⟨ua58_0,uc58_0,rfl,ul58_0,ge58_0⟩:=Kd.FK_slice_open hMe58;have hv58_0:=hcc58 0 _ rfl;rw [Nat.add_zero,show ((Kd.slice 3 (Kd.int .i64))).sz=1 from rfl,Nat.mul_one] at hv58_0;replace hv58_0:=Option.some.inj (hv58_0.symm.trans hx58_0)
       injection hv58_0 with hva_ hvn_ hvc_
       rw [hva_] at ge58_0;rw [hvc_] at ul58_0;have HL58_0:=zA (show Kd.V (Kd.int .i64) 3 _ w.heap.size _ _ (rd_L1 t62 x18_2) from Kd.V_mk ul58_0 ge58_0);clear hva_ hvn_ hvc_ ge58_0 ul58_0;clear hcc58 hce58;have HR58_0:=zA hi58_0;have HC58_0:=zA hl58_0;clear hi58_0 hl58_0;replace p58:=eq_true p58;replace q58:=eq_true q58
       go_upto_region 8 with (first|((with_reducible refine gd 8 rfl ?_);refine zx #[.slice none 0 0] 23 ?_;intro gb61 hg w11 BK61 hb GW61 HB1;have GE61:=GW61;have NB63_61:=zL hg BK63;have NB61_63:=zLs NB63_61;replace HO_5:=zA (Kd.N_below (Kd.N_elderB (zN HO_5) gb61 (Nat.le_of_eq hg.symm)) hb);replace HO_16:=zA (Kd.N_below (Kd.N_elderB (zN HO_16) gb61 (Nat.le_of_eq hg.symm)) hb);replace BK63:=zw BK63 hb;replace HR58_0:=zA (Kd.C_below ((Kd.V_reads' HL58_0.out).2.2) hb);replace HL58_0:=zA (Kd.V_below (Kd.V_elderB (by (with_reducible repeat (first|apply Kd.V_alloc|apply Kd.V_drewN|apply Kd.V_drew));exact HL58_0.out) gb61 (Nat.le_of_eq hg.symm)) hb);clear HB hb hg;have HB:=HB1;clear HB1;have hnb12:=NB61_63.out;have hnc12:=NB63_61.out;have hcz13_0:=zc0 BK61;have hfz13_0:=zf BK61 0))
       (try simp only [Act.put,zi,zs,zt]);have H:=HC10.out;clear HC10;obtain ⟨t86,A14,H⟩:=zo H
       by_cases c15:t86=true
       ·subst c15
        have H1:(conflict_least_conflict_Repairs_1.l1 k2 a0 x5_2 (wrap64 (a0+1)) x11_1 t62 (t62.length:Int) (wrap64 (x18_2+1)) l1_0)=some r:=by rw [if_pos rfl] at H;exact H
        clear H;have H:=H1;clear H1;have H':=zA H;clear H;obtain ⟨Ao16,co16,eo16⟩:=Kd.N_slice HO_5.out;subst eo16
        go_wp2_with (first|((with_reducible refine gate_callee (f:=15) rfl ?_);refine zgo 24 Tryz.func15 #[.slice Ao16 x5_2.length co16,.func (.func 83) #[] #[.pointer (some ⟨gb61,0,none⟩)]] ?_;(with_reducible refine (slices_ContainsFunc_int_int_conflict_least_1.calls k2 _ _ x5_2 gb61 A58_0 c58_0 (rd_L1 t62 x18_2) true _ ?side1 ?side2 ?side3 HC58_0.out ?side5 A14.out).mono ?_);(case side1=>refine (Kd.N_reads' (e:=23) (base:=w.heap.size) (ok:=fun k_=>(((w.heap.size≤k_)∧(some k_≠(.slice (some ad58) t62.length co6:Value).ownBlock∧k_≠gp1_0))∧k_≠gb61)) (n:=x5_2.length) (c:=co16) ?_).2.2;exact (by (with_reducible repeat (first|apply Kd.N_alloc|apply Kd.N_drewN|apply Kd.N_drew));exact (Kd.N_mono (Kd.N_far (p:=⟨gb61,0,none⟩) (Kd.N_mono HO_5.out (fun k_ hk=>(⟨hk,hk.2⟩:_∧k_≠gb61))) (fun _ hk=>hk.2) (.slice A58_0 (rd_L1 t62 x18_2).length c58_0)) (fun _ h_=>h_.1))));(case side2=>exact (Kd.N_reads' HO_5.out).2.1);(case side3=>repeat (first|exact ((Kd.V_reads' (by (with_reducible repeat (first|apply Kd.V_alloc|apply Kd.V_drewN|apply Kd.V_drew));exact (Kd.V_mono (Kd.V_far (p:=⟨gb61,0,none⟩) (Kd.V_mono HL58_0.out (fun k_ hk=>(⟨hk,hk.2⟩:_∧k_≠gb61))) (fun _ hk=>hk.2) (.slice A58_0 (rd_L1 t62 x18_2).length c58_0)) (fun _ h_=>h_.1)))).2.2)|(with_reducible refine Kd.C_alloc ?_ _)|(with_reducible refine Kd.C_drewN ?_ _)|(with_reducible refine Kd.C_drew ?_)));(case side5=>refine zj ?_;refine blk_put (cs:=#[.slice none 0 0]) ?_ 0 _ rfl;refine zj ?_;exact BK61.out);rintro e w17 ⟨rfl,hb⟩;refine ⟨_,rfl,?_⟩;replace HO_5:=zA (Kd.N_below (by (with_reducible repeat (first|apply Kd.N_alloc|apply Kd.N_drewN|apply Kd.N_drew));exact (Kd.N_mono (Kd.N_far (p:=⟨gb61,0,none⟩) (Kd.N_mono HO_5.out (fun k_ hk=>(⟨hk,hk.2⟩:_∧k_≠gb61))) (fun _ hk=>hk.2) (.slice A58_0 (rd_L1 t62 x18_2).length c58_0)) (fun _ h_=>h_.1))) hb);replace HO_16:=zA (Kd.N_below (by (with_reducible repeat (first|apply Kd.N_alloc|apply Kd.N_drewN|apply Kd.N_drew));exact (Kd.N_mono (Kd.N_far (p:=⟨gb61,0,none⟩) (Kd.N_mono HO_16.out (fun k_ hk=>(⟨hk,hk.2⟩:_∧k_≠gb61))) (fun _ hk=>hk.2) (.slice A58_0 (rd_L1 t62 x18_2).length c58_0)) (fun _ h_=>h_.1))) hb);replace BK63:=zA (blk_below (g:=gp1_0) (o:=.cells #[.slice A1_0 l1_0.length c1_0] 22 (0,0)) (by refine zj ?_;refine blk_far ?_ NB63_61.out _;refine zj ?_;exact BK63.out) hb);replace HR58_0:=zA (Kd.C_below ((Kd.V_reads' (by (with_reducible repeat (first|apply Kd.V_alloc|apply Kd.V_drewN|apply Kd.V_drew));exact (Kd.V_mono (Kd.V_far (p:=⟨gb61,0,none⟩) (Kd.V_mono HL58_0.out (fun k_ hk=>(⟨hk,hk.2⟩:_∧k_≠gb61))) (fun _ hk=>hk.2) (.slice A58_0 (rd_L1 t62 x18_2).length c58_0)) (fun _ h_=>h_.1)))).2.2) hb);replace HL58_0:=zA (Kd.V_below (by (with_reducible repeat (first|apply Kd.V_alloc|apply Kd.V_drewN|apply Kd.V_drew));exact (Kd.V_mono (Kd.V_far (p:=⟨gb61,0,none⟩) (Kd.V_mono HL58_0.out (fun k_ hk=>(⟨hk,hk.2⟩:_∧k_≠gb61))) (fun _ hk=>hk.2) (.slice A58_0 (rd_L1 t62 x18_2).length c58_0)) (fun _ h_=>h_.1))) hb);replace BK61:=zA (blk_below (g:=gb61) (o:=.cells #[.slice A58_0 (rd_L1 t62 x18_2).length c58_0] 23 (0,0)) (by refine zj ?_;refine blk_put (cs:=#[.slice none 0 0]) ?_ 0 _ rfl;refine zj ?_;exact BK61.out) hb);replace HB:=zu hb;clear hb))
        go_roundg k2
        case measure=>have:=HK1.out;have:=HK2.out;omega
        case rel=>exact ⟨(x5_2),(wrap64 (x18_2+1)),zT,H',⟨by have:=HK1.out;have:=HK2.out;omega⟩,⟨by (with_reducible repeat (first|apply Kd.N_alloc|apply Kd.N_drewN|apply Kd.N_drew));exact Kd.N_mono HO_5.out (fun _ hk=>⟨hk.1.1,⟨hk.1.2.1,hk.1.2.2⟩⟩)⟩,⟨by (with_reducible repeat (first|apply Kd.N_alloc|apply Kd.N_drewN|apply Kd.N_drew));exact Kd.N_mono HO_16.out (fun _ hk=>⟨hk.1.1,⟨hk.1.2.1,hk.1.2.2⟩⟩)⟩,⟨by refine zj ?_;exact BK63.out⟩,⟨zv1 HB GE61⟩⟩
       ·replace c15:=Bool.eq_false_iff.mpr c15;subst c15
        have H1:((conflict_Repairs_1_v1.f k2 (rd_L1 t62 x18_2) l1_0).bind fun t84=>(if t84=true then (if x5_2.length<5864062014805 then (conflict_least_conflict_Repairs_1.l1 k2 a0 (x5_2++[rd_L1 t62 x18_2]) (wrap64 (a0+1)) x11_1 t62 (t62.length:Int) (wrap64 (x18_2+1)) l1_0) else (none)) else (conflict_least_conflict_Repairs_1.l1 k2 a0 x5_2 (wrap64 (a0+1)) x11_1 t62 (t62.length:Int) (wrap64 (x18_2+1)) l1_0)))=some r:=by rw [if_neg (show ¬ (false=true) by decide)] at H;exact H
        clear H;have H:=H1;clear H1;obtain ⟨t84,A18,H⟩:=zo H;have HC19:=zA H;clear H;obtain ⟨Ao20,co20,eo20⟩:=Kd.N_slice HO_5.out;subst eo20
        go_upto_if 30 with (first|((with_reducible refine gate_callee (f:=15) rfl ?_);refine zgo 24 Tryz.func15 #[.slice Ao20 x5_2.length co20,.func (.func 83) #[] #[.pointer (some ⟨gb61,0,none⟩)]] ?_;(with_reducible refine (slices_ContainsFunc_int_int_conflict_least_1.calls k2 _ _ x5_2 gb61 A58_0 c58_0 (rd_L1 t62 x18_2) false _ ?side1 ?side2 ?side3 HC58_0.out ?side5 A14.out).mono ?_);(case side1=>refine (Kd.N_reads' (e:=23) (base:=w.heap.size) (ok:=fun k_=>(((w.heap.size≤k_)∧(some k_≠(.slice (some ad58) t62.length co6:Value).ownBlock∧k_≠gp1_0))∧k_≠gb61)) (n:=x5_2.length) (c:=co20) ?_).2.2;exact (by (with_reducible repeat (first|apply Kd.N_alloc|apply Kd.N_drewN|apply Kd.N_drew));exact (Kd.N_mono (Kd.N_far (p:=⟨gb61,0,none⟩) (Kd.N_mono HO_5.out (fun k_ hk=>(⟨hk,hk.2⟩:_∧k_≠gb61))) (fun _ hk=>hk.2) (.slice A58_0 (rd_L1 t62 x18_2).length c58_0)) (fun _ h_=>h_.1))));(case side2=>exact (Kd.N_reads' HO_5.out).2.1);(case side3=>repeat (first|exact ((Kd.V_reads' (by (with_reducible repeat (first|apply Kd.V_alloc|apply Kd.V_drewN|apply Kd.V_drew));exact (Kd.V_mono (Kd.V_far (p:=⟨gb61,0,none⟩) (Kd.V_mono HL58_0.out (fun k_ hk=>(⟨hk,hk.2⟩:_∧k_≠gb61))) (fun _ hk=>hk.2) (.slice A58_0 (rd_L1 t62 x18_2).length c58_0)) (fun _ h_=>h_.1)))).2.2)|(with_reducible refine Kd.C_alloc ?_ _)|(with_reducible refine Kd.C_drewN ?_ _)|(with_reducible refine Kd.C_drew ?_)));(case side5=>refine zj ?_;refine blk_put (cs:=#[.slice none 0 0]) ?_ 0 _ rfl;refine zj ?_;exact BK61.out);rintro e w21 ⟨rfl,hb⟩;refine ⟨_,rfl,?_⟩;replace HO_5:=zA (Kd.N_below (by (with_reducible repeat (first|apply Kd.N_alloc|apply Kd.N_drewN|apply Kd.N_drew));exact (Kd.N_mono (Kd.N_far (p:=⟨gb61,0,none⟩) (Kd.N_mono HO_5.out (fun k_ hk=>(⟨hk,hk.2⟩:_∧k_≠gb61))) (fun _ hk=>hk.2) (.slice A58_0 (rd_L1 t62 x18_2).length c58_0)) (fun _ h_=>h_.1))) hb);replace HO_16:=zA (Kd.N_below (by (with_reducible repeat (first|apply Kd.N_alloc|apply Kd.N_drewN|apply Kd.N_drew));exact (Kd.N_mono (Kd.N_far (p:=⟨gb61,0,none⟩) (Kd.N_mono HO_16.out (fun k_ hk=>(⟨hk,hk.2⟩:_∧k_≠gb61))) (fun _ hk=>hk.2) (.slice A58_0 (rd_L1 t62 x18_2).length c58_0)) (fun _ h_=>h_.1))) hb);replace BK63:=zA (blk_below (g:=gp1_0) (o:=.cells #[.slice A1_0 l1_0.length c1_0] 22 (0,0)) (by refine zj ?_;refine blk_far ?_ NB63_61.out _;refine zj ?_;exact BK63.out) hb);replace HR58_0:=zA (Kd.C_below ((Kd.V_reads' (by (with_reducible repeat (first|apply Kd.V_alloc|apply Kd.V_drewN|apply Kd.V_drew));exact (Kd.V_mono (Kd.V_far (p:=⟨gb61,0,none⟩) (Kd.V_mono HL58_0.out (fun k_ hk=>(⟨hk,hk.2⟩:_∧k_≠gb61))) (fun _ hk=>hk.2) (.slice A58_0 (rd_L1 t62 x18_2).length c58_0)) (fun _ h_=>h_.1)))).2.2) hb);replace HL58_0:=zA (Kd.V_below (by (with_reducible repeat (first|apply Kd.V_alloc|apply Kd.V_drewN|apply Kd.V_drew));exact (Kd.V_mono (Kd.V_far (p:=⟨gb61,0,none⟩) (Kd.V_mono HL58_0.out (fun k_ hk=>(⟨hk,hk.2⟩:_∧k_≠gb61))) (fun _ hk=>hk.2) (.slice A58_0 (rd_L1 t62 x18_2).length c58_0)) (fun _ h_=>h_.1))) hb);replace BK61:=zA (blk_below (g:=gb61) (o:=.cells #[.slice A58_0 (rd_L1 t62 x18_2).length c58_0] 23 (0,0)) (by refine zj ?_;refine blk_put (cs:=#[.slice none 0 0]) ?_ 0 _ rfl;refine zj ?_;exact BK61.out) hb);replace HB:=zu hb;clear hb;have hnb22:=NB61_63.out;have hnc22:=NB63_61.out;have hcz23_0:=zc0 BK61;have hfz23_0:=zf BK61 0)|(go_at_call 55;(with_reducible refine (conflict_Repairs_1_v1.calls k2 _ _ (rd_L1 t62 x18_2) gp1_0 A1_0 c1_0 l1_0 t84 _ ?side1 HC58_0.out (zD HR1_0 HB) HC1_0.out ?side5 A18.out).mono ?_);(case side1=>exact zC ((Kd.V_reads' HL58_0.out).2.2));(case side5=>refine zj ?_;exact BK63.out);rintro e w24 ⟨rfl,hb⟩;replace HO_5:=zA (Kd.N_below (zN HO_5) hb);replace HO_16:=zA (Kd.N_below (zN HO_16) hb);replace BK63:=zw BK63 hb;replace HR58_0:=zA (Kd.C_below ((Kd.V_reads' HL58_0.out).2.2) hb);replace HL58_0:=zA (Kd.V_below (by (with_reducible repeat (first|apply Kd.V_alloc|apply Kd.V_drewN|apply Kd.V_drew));exact HL58_0.out) hb);replace BK61:=zw BK61 hb;replace HB:=zu hb;clear hb))
        (try simp only [Act.put,zi,zs,zt]);have H:=HC19.out;clear HC19
        by_cases c25:t84=true
        ·subst c25
         have H1:(if x5_2.length<5864062014805 then (conflict_least_conflict_Repairs_1.l1 k2 a0 (x5_2++[rd_L1 t62 x18_2]) (wrap64 (a0+1)) x11_1 t62 (t62.length:Int) (wrap64 (x18_2+1)) l1_0) else (none))=some r:=by rw [if_pos rfl] at H;exact H
         clear H;have H:=H1;clear H1;obtain ⟨c26,H⟩:=if1 H;have LMc26:=zA c26;clear c26
         first|(replace H:=zyb (x5_2++[rd_L1 t62 x18_2]) H;obtain ⟨y77,Ny77,H⟩:=H)|(obtain ⟨y77,hy77⟩:=zY (x5_2++[rd_L1 t62 x18_2]);(try rw (occs:=.pos [1]) [← hy77] at H);have Ny77:=zA hy77;clear hy77)
         have H':=zA H;clear H;have hnb27:=NB61_63.out;have hnc27:=NB63_61.out;have hcz28_0:=zc0 BK61;have hfz28_0:=zf BK61 0
         go_wp2_with (first|((with_reducible refine gate_builtin (b:=.append) (xs:=#[.tmp 31,.tmp 33]) rfl ?_);at_builtin;refine Kd.N_append (Kd.slice 3 (Kd.int .i64)) (w0:=w) w.heap.size rfl (.tmp 31) (.tmp 33) 36 23 (.slice none 0 0) 24 rfl Tryz.underlying36 info23 rfl (by decide) (by omega) (.slice Ao20 x5_2.length co20) x5_2 (rd_L1 t62 x18_2) [.slice A58_0 (rd_L1 t62 x18_2).length c58_0] (fun k_=>(w.heap.size≤k_)∧some k_≠(.slice (some ad58) t62.length co6:Value).ownBlock∧k_≠gp1_0∧k_≠gb61) (fun k_=>((fun k_=>(w.heap.size≤k_)∧some k_≠(.slice (some ad58) t62.length co6:Value).ownBlock∧k_≠gp1_0∧k_≠gb61)) k_∧some k_≠(.slice Ao20 x5_2.length co20:Value).ownBlock) rfl rfl ?aP (fun _ hk=>hk) ?aF ?aO ?aB ?aS ?aL ?_;(case aP=>exact (Kd.FK_slice_mk (Kd.V_reads' (Kd.V_mono (ok':=(fun k_=>((fun k_=>(w.heap.size≤k_)∧some k_≠(.slice (some ad58) t62.length co6:Value).ownBlock∧k_≠gp1_0∧k_≠gb61)) k_∧some k_≠(.slice Ao20 x5_2.length co20:Value).ownBlock)) (HL58_0.out) (fun k_ hk=>⟨⟨hk.1.1.1,⟨hk.1.2,⟨hk.1.1.2.2,hk.2⟩⟩⟩,hk.1.1.2.1⟩))).2.1 (Kd.V_F (Kd.V_mono (ok':=(fun k_=>((fun k_=>(w.heap.size≤k_)∧some k_≠(.slice (some ad58) t62.length co6:Value).ownBlock∧k_≠gp1_0∧k_≠gb61)) k_∧some k_≠(.slice Ao20 x5_2.length co20:Value).ownBlock)) (HL58_0.out) (fun k_ hk=>⟨⟨hk.1.1.1,⟨hk.1.2,⟨hk.1.1.2.2,hk.2⟩⟩⟩,hk.1.1.2.1⟩)))));(case aB=>exact zB);(case aF=>exact (fun k_ hk=>⟨(Nat.le_trans (below_size zB) hk),Kd.fresh' (Kd.N_lt (zN HO_16)) k_ hk,Kd.freshB (g:=gp1_0) (o:=.cells #[.slice A1_0 l1_0.length c1_0] 22 (0,0)) (zk BK63) k_ hk,Kd.freshB (g:=gb61) (o:=.cells #[.slice A58_0 (rd_L1 t62 x18_2).length c58_0] 23 (0,0)) (zk BK61) k_ hk⟩));(case aO=>exact (by (with_reducible repeat (first|apply Kd.N_alloc|apply Kd.N_drewN|apply Kd.N_drew));exact Kd.N_mono HO_5.out (fun _ hk=>⟨hk.1.1,⟨hk.1.2.1,⟨hk.1.2.2,hk.2⟩⟩⟩)));(case aS=>exact (below_size zB));(case aL=>have:=LMc26.out;omega);intro v383 w29 ho hb hg hat;rw [← Ny77.out] at ho;have HO95:=zA (ho);replace HO_16:=zA (Kd.N_afterv (ok:=(fun k_=>(w.heap.size≤k_)∧k_≠gp1_0∧k_≠gb61)) (by (with_reducible repeat (first|apply Kd.N_alloc|apply Kd.N_drewN|apply Kd.N_drew));exact Kd.N_mono HO_16.out (fun _ hk=>⟨⟨hk.1.1,⟨hk.1.2.2,hk.2⟩⟩,hk.1.2.1⟩)) hg hat);replace BK63:=zA (blk_grown (g:=gp1_0) (o:=.cells #[.slice A1_0 l1_0.length c1_0] 22 (0,0)) (zk BK63) hg (Kd.N_ne HO_5.out BK63.out (by decide)));replace HL58_0:=zA (Kd.V_afterv (ok:=(fun k_=>(w.heap.size≤k_)∧some k_≠(.slice (some ad58) t62.length co6:Value).ownBlock∧k_≠gp1_0∧k_≠gb61)) (by (with_reducible repeat (first|apply Kd.V_alloc|apply Kd.V_drewN|apply Kd.V_drew));exact Kd.V_mono HL58_0.out (fun _ hk=>⟨⟨hk.1.1.1,⟨hk.1.2,⟨hk.1.1.2.2,hk.2⟩⟩⟩,hk.1.1.2.1⟩)) hg hat);replace BK61:=zA (blk_grown (g:=gb61) (o:=.cells #[.slice A58_0 (rd_L1 t62 x18_2).length c58_0] 23 (0,0)) (zk BK61) hg (Kd.N_away HO_5.out (fun _ hk=>hk.2)));replace HB:=zA (hb);clear HO_5;clear ho hb hg hat))
         go_roundg k2
         case measure=>have:=HK1.out;have:=HK2.out;omega
         case rel=>exact ⟨(y77),(wrap64 (x18_2+1)),zT,H',⟨by have:=HK1.out;have:=HK2.out;omega⟩,⟨by (with_reducible repeat (first|apply Kd.N_alloc|apply Kd.N_drewN|apply Kd.N_drew));exact Kd.N_mono HO95.out (fun _ hk=>⟨hk.1,⟨hk.2.1,hk.2.2.1⟩⟩)⟩,⟨by (with_reducible repeat (first|apply Kd.N_alloc|apply Kd.N_drewN|apply Kd.N_drew));exact Kd.N_mono HO_16.out (fun _ hk=>⟨hk.1.1,⟨hk.2,hk.1.2.1⟩⟩)⟩,⟨by refine zj ?_;exact BK63.out⟩,⟨zv1 HB GE61⟩⟩
        ·replace c25:=Bool.eq_false_iff.mpr c25;subst c25
         have H1:(conflict_least_conflict_Repairs_1.l1 k2 a0 x5_2 (wrap64 (a0+1)) x11_1 t62 (t62.length:Int) (wrap64 (x18_2+1)) l1_0)=some r:=by rw [if_neg (show ¬ (false=true) by decide)] at H;exact H
         clear H;have H:=H1;clear H1;have H':=zA H;clear H
         go_wp2
         go_roundg k2
         case measure=>have:=HK1.out;have:=HK2.out;omega
         case rel=>exact ⟨(x5_2),(wrap64 (x18_2+1)),zT,H',⟨by have:=HK1.out;have:=HK2.out;omega⟩,⟨by (with_reducible repeat (first|apply Kd.N_alloc|apply Kd.N_drewN|apply Kd.N_drew));exact Kd.N_mono HO_5.out (fun _ hk=>⟨hk.1.1,⟨hk.1.2.1,hk.1.2.2⟩⟩)⟩,⟨by (with_reducible repeat (first|apply Kd.N_alloc|apply Kd.N_drewN|apply Kd.N_drew));exact Kd.N_mono HO_16.out (fun _ hk=>⟨hk.1.1,⟨hk.1.2.1,hk.1.2.2⟩⟩)⟩,⟨by refine zj ?_;exact BK63.out⟩,⟨zv1 HB GE61⟩⟩
      ·have H':=zA H;clear H
       go_wp2
       go_roundg k2
       case measure=>have:=HK1.out;have:=HK2.out;omega
       case rel=>exact ⟨(x5_2),(wrap64 (x11_1+1)),zT,H',⟨by have:=HK1.out;have:=HK2.out;omega⟩,⟨by (with_reducible repeat (first|apply Kd.N_alloc|apply Kd.N_drewN|apply Kd.N_drew));exact Kd.N_mono HO_5.out (fun _ hk=>⟨hk.1,hk.2.2⟩)⟩,⟨by refine zj ?_;exact BK63.out⟩,⟨zv0 HB⟩⟩
   ·obtain rfl:=Option.some.inj H
    go_wp2
    go_ret
    exact ⟨_,ze,by (with_reducible repeat (first|apply Kd.N_alloc|apply Kd.N_drewN|apply Kd.N_drew));exact Kd.N_mono HO_5.out (fun _ hk=>hk.1),zv0 HB⟩
def conflict_Repairs.f (k:Nat) (l0:List (S49)):Option ((List (List Int))×Int):=(conflict_valid.f k l0).bind fun t62=>(if t62=0 then ((conflict_least_conflict_Repairs_1.f k (l0.length:Int) l0).bind fun t81=>(some (t81,0))) else (some (([]:List (List Int)),t62)))
set_option maxHeartbeats 8000000 in
set_option maxRecDepth 100000 in
theorem conflict_Repairs.calls (k:Nat) (A0:Option Addr) (c0:Nat) (l0:List (S49)) (r1:List (List Int)) (r2:Int) (w:World) (hr0:Kd.C k49 w A0 l0.length l0) (hc0:l0.length≤c0) (h:conflict_Repairs.f k l0=some (r1,r2)) :
  Calls Tryz.prog 23 #[.slice A0 l0.length c0] w fun e w'=>∃ v0_:Value,e=.returned (.tuple #[v0_,.int .i64 r2])∧Kd.N (Kd.slice 3 (Kd.int .i64)) 23 w' w.heap.size (fun k_=>(w.heap.size≤k_)) v0_ r1∧Below w.heap.size w w':=by
 have HR0:=zA hr0;have HC0:=zA hc0;clear hr0 hc0;have HB:=zA (Below.refl w.heap.size w);have H:((conflict_valid.f k l0).bind fun t62=>(if t62=0 then ((conflict_least_conflict_Repairs_1.f k (l0.length:Int) l0).bind fun t81=>(some (t81,0))) else (some (([]:List (List Int)),t62))))=some (r1,r2):=h;clear h;obtain ⟨t62,A2,H⟩:=zo H;have HC3:=zA H;clear H
 go_enter Tryz.func23,Tryz.ntmps23
 go_upto_if 8 with (first|((with_reducible refine gd 1 rfl ?_);refine zx #[.slice A0 l0.length c0] 22 ?_;intro gb63 hg w4 BK63 hb GW63 HB1;have GE63:=GW63;clear HB hb hg;have HB:=HB1;clear HB1;have hcz5_0:=zc0 BK63;have hfz5_0:=zf BK63 0)|((with_reducible refine gate_callee (f:=30) rfl ?_);refine zgo 6 Tryz.func30 #[.slice A0 l0.length c0] ?_;(with_reducible refine (conflict_valid.calls k _ _ l0 t62 _ (zD HR0 HB) HC0.out A2.out).mono ?_);rintro e w6 ⟨rfl,hb⟩;refine ⟨_,rfl,?_⟩;replace BK63:=zw BK63 hb;replace HB:=zu hb;clear hb))
 (try simp only [Act.put,zi,zs,zt]);have H:=HC3.out;clear HC3
 rcases ife H with ⟨c7b0,c7b1,H⟩|⟨c7,c7b0,c7b1,H⟩
 ·(first|rw [c7b0]|(simp only [i64_w,i32_w];rw [c7b0])|skip)
  (try rw [c7b1]);obtain ⟨t81,A8,H⟩:=zo H;simp only [Option.some.injEq,Prod.mk.injEq] at H;obtain ⟨rfl,rfl⟩:=H;have hcz9_0:=zc0 BK63;have hfz9_0:=zf BK63 0
  go_wp2_with (first|((with_reducible refine gate_callee (f:=52) rfl ?_);refine zgo 13 Tryz.func52 #[.int .i64 (l0.length:Int),.func (.func 55) #[] #[.pointer (some ⟨gb63,0,none⟩)]] ?_;(with_reducible refine (conflict_least_conflict_Repairs_1.calls k (l0.length:Int) gb63 A0 c0 l0 t81 _ (zD HR0 HB) HC0.out ?side3 A8.out).mono ?_);(case side3=>refine zj ?_;exact BK63.out);rintro e w10 ⟨v76,rfl,ho0,hb⟩;refine ⟨_,rfl,?_⟩;have HO58:=zA (Kd.N_lower (Kd.N_mono (ok':=fun k_=>(w.heap.size≤k_)∧k_≠gb63) ho0 (fun k_ hk_=>⟨(Nat.le_trans (below_size zB) hk_),(Kd.freshB (g:=gb63) (o:=.cells #[.slice A0 l0.length c0] 22 (0,0)) (zk BK63) k_ hk_)⟩)) (below_size zB));replace BK63:=zw BK63 hb;replace HB:=zu hb;clear hb;(try clear ho0)))
  go_ret2
  exact ⟨_,ze,by (with_reducible repeat (first|apply Kd.N_alloc|apply Kd.N_drewN|apply Kd.N_drew));exact Kd.N_mono HO58.out (fun _ hk=>hk.1),zv1 HB GE63⟩
 ·(first|rw [c7b0]|(simp only [i64_w,i32_w];rw [c7b0])|skip)
  (try rw [c7b1]);simp only [Option.some.injEq,Prod.mk.injEq] at H;obtain ⟨rfl,rfl⟩:=H
  go_wp2
  go_ret2
  exact ⟨_,ze,by first|exact Kd.S_nil _ _ _ _ _|exact Kd.N_nil _ _ _ _ _|exact Kd.V_nil _ _ _ _ _|exact Kd.Q_nil _ _ _ _ _|exact Kd.R_nil _ _ _ _ _,zv1 HB GE63⟩
section
open Go.Sort Go.Shelf
def slices_Grow_int_int.f (l0:List Int) (a1:Int):Option (List Int):=if 0≤a1 then (if l0.length+(a1:Int).toNat≤17592186044416 then some l0 else none) else none
theorem slices_Grow_int_int.calls (P0_:Nat→Prop) (u87_:Value) (l0:List Int) (a1:Int) (r:List Int) (w0 w:World) (hB:Below w0.heap.size w0 w) (ho0:Kd.R (Kd.int .i64) 3 w w0.heap.size P0_ u87_ l0) (h:slices_Grow_int_int.f l0 a1=some r) :
 Calls Tryz.prog 85 #[u87_,.int .i64 a1] w fun e w'=>∃ v0_:Value,e=.returned (v0_)∧Kd.R (Kd.int .i64) 3 w' w0.heap.size (fun k_=>(P0_ k_∨w.heap.size≤k_)) v0_ r∧Below w0.heap.size w0 w'∧Kept w w' (fun k_=>P0_ k_):=by
 unfold slices_Grow_int_int.f at h
 by_cases h0:0≤a1
 ·rw [if_pos h0] at h
  by_cases h1:l0.length+(a1:Int).toNat≤17592186044416
  ·rw [if_pos h1] at h;obtain rfl:=Option.some.inj h
   obtain ⟨n,rfl⟩:∃ n:Nat,a1=(n:Int):=⟨a1.toNat,by omega⟩
   rw [Int.toNat_natCast] at h1;obtain ⟨A,c,rfl⟩:=Kd.R_slice ho0;have ho:=Kd.own_of_R (enc:=Value.int .i64) (h1:=fun _=>rfl) ho0
   have hlc:l0.length≤c∧c≤maxLen:=by
    rcases ho.2 with ⟨e1,e2⟩|⟨g,cap,cur,e1,_,_,e2,e3,_⟩
    ·injection e1 with _ _ e3
     subst e3;exact ⟨by omega,by unfold maxLen;omega⟩
    ·injection e1 with _ _ e4
     subst e4;exact ⟨e2,e3⟩
   have hm:=hlc.2
   unfold maxLen at hm
   by_cases hroom:l0.length+n≤c
   ·refine (Any8.slices_Grow_room laysGrow A l0.length c n w hlc.1 (by omega) (by omega) hroom).mono ?_;rintro e w' ⟨rfl,rfl⟩;exact ⟨_,rfl,Kd.R_mono ho0 (fun k hk=>.inl hk),hB,Kept.refl _ _⟩
   ·obtain ⟨cs,hcl,hnil,hcs,htk⟩:∃ cs:List Value,cs.length=c∧(A=none→c=0)∧(∀ a,A=some a→∀ j v,cs[j]?=some v→w.cell? (a.add j)=some v)∧cs.take l0.length=l0.map (Value.int .i64):=by
     rcases ho.2 with ⟨e1,e2⟩|⟨g,cap,cur,e1,_,hg,e2,e3,e4,e5⟩
     ·injection e1 with e1 e4 e3
      subst e1 e3;have hl:l0=[]:=List.eq_nil_of_length_eq_zero e2;subst hl;exact ⟨[],rfl,fun _=>rfl,fun a ha=>by simp at ha,rfl⟩
     ·injection e1 with e1 _ e6
      subst e1 e6;refine ⟨cur.toList,by simpa using e4,fun h=>by simp at h,fun a ha j v hv=>?_,by simpa [encs] using e5⟩;obtain rfl:=Option.some.inj ha
      have hadd:(⟨g,0,none⟩:Addr).add j=⟨g,j,none⟩:=by
       unfold Addr.add
       split
       ·rename_i hj;rw [hj]
       ·simp
      rw [hadd];exact (blk_cell hg j).trans (by simpa using hv)
    have hi0:=info3;obtain ⟨i0,hi,hz,hs,hby⟩:=info_parts hi0;refine (Any8.slices_Grow_grow laysGrow i0 (.int .i64 0) hi hz (by omega) A l0.length c n cs w hlc.1 (by omega) (by rw [hby];omega) (by omega) (by rw [hcl,hs,Nat.mul_one]) hnil hcs).mono ?_;rintro e w' ⟨rfl,rfl⟩;have hgc:=grownCap_ge w (l0.length+n) c (laysGrow_ren.t 25);have hgm:=grownCap_le_maxLen w (l0.length+n) c (laysGrow_ren.t 25) (by unfold maxLen;omega)
    have hlt:l0.length≤cs.length:=by omega
    refine ⟨_,rfl,Kd.R_of_own (enc:=Value.int .i64) (h1:=fun _=>rfl) ⟨by simp [encs],.inr ⟨w.heap.size,_,_,rfl,hB.size,blk_new w.drew _,by omega,hgm,?_,?_⟩⟩ (fun k hk=>?_),(hB.drew).alloc hB.size _,((Kept.refl w _).drew).alloc _⟩
    ·simp only [Array.size_append,List.size_toArray,size_zeroCells]
     show cs.length+(l0.length+n - c) * 1+(grownCap w (l0.length+n) c (laysGrow_ren.t 25) - (l0.length+n)) * 1=_
     omega
    ·simp only [Array.toList_append,Nat.mul_one];rw [List.append_assoc,List.take_append_of_le_length hlt,htk];rfl
    ·simp [Value.ownBlock] at hk
     exact .inr (by omega)
  ·rw [if_neg h1] at h;exact absurd h (by simp)
 ·rw [if_neg h0] at h;exact absurd h (by simp)
end
end Go.Proofs.YtkjghablbeaioaaGreat.B
