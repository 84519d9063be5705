import Derived.Test.YtngpkbbljnbojaaGreatL0
import Derived.Test.YtngpkbbljnbojaaGreatL10
namespace Go.Proofs.YtngpkbbljnbojaaGreat.L
open Go.RowKit Go.Proofs.YtngpkbbljnbojaaGreatW.PrintWords Go.Proofs.YtngpkbbljnbojaaGreatW.PrintLast Go.Proofs.YtngpkbbljnbojaaGreatW.PrintMore
attribute [local go_sem] max2_int min2_int max_two min_two max_three min_three max_four min_four Tryz.underlying63
set_option linter.unusedVariables false
set_option linter.unusedSimpArgs false
def shared_within.l0:Nat→List (S63)→List (S63)→Int→Int→Option (Bool)
 | 0,_,_,_,_=>none
 | k+1,x0,x9,x10,x11=>if x11<x10 then (if 0≤x11 then (if x11<(x9.length:Int) then ((shared_Implied.f k x0 ((rd_T63 x9 x11).f0) ((rd_T63 x9 x11).f1)).bind fun bt17=>(if bt17.2=0 then (if bt17.1=true then (shared_within.l0 k x0 x9 x10 (wrap64 (x11+1))) else (some false)) else (some false))) else (none)) else (none)) else (some true)
def shared_within.f (k:Nat) (l0:List (S63)) (l1:List (S63)):Option (Bool):=shared_within.l0 k l0 l1 (l1.length:Int) 0
set_option maxHeartbeats 8000000 in
set_option maxRecDepth 100000 in
theorem shared_within.calls (k:Nat) (A0:Option Addr) (c0:Nat) (l0:List (S63)) (A1:Option Addr) (c1:Nat) (l1:List (S63)) (r:Bool) (w:World) (hr0:Kd.C k63 w A0 l0.length l0) (hc0:l0.length≤c0) (hr1:Kd.C k63 w A1 l1.length l1) (hc1:l1.length≤c1) (h:shared_within.f k l0 l1=some r) :
  Calls Tryz.prog 96 #[.slice A0 l0.length c0,.slice A1 l1.length c1] w fun e w'=>e=.returned (.bool r)∧Below w.heap.size w w':=by
 have HR0:=zA hr0;have HC0:=zA hc0;clear hr0 hc0;have HR1:=zA hr1;have HC1:=zA hc1;clear hr1 hc1;have HB:=zA (Below.refl w.heap.size w);have H:(shared_within.l0 k l0 l1 (l1.length:Int) 0)=some r:=h;clear h;have H':=zA H;clear H
 go_enter Tryz.func96,Tryz.ntmps96
 go_wp2
 go_loopg [11] k (fun kq v11 w'=>∃ (x11_1:Int),v11=.int .i64 x11_1∧Aside0 (shared_within.l0 kq l0 l1 (l1.length:Int) x11_1=some r)∧Aside0 (kq≤k)∧Aside0 (Below w.heap.size w w'))
 case atStart=>exact ⟨(0),zT,H',⟨Nat.le_refl _⟩,⟨zv0 HB⟩⟩
 case round=>
  clear H';obtain ⟨x11_1,rfl,HA,HK1,HB⟩:=hrel
  cases gk with
  | zero=>exact absurd HA.out (by simp [shared_within.l0])
  | succ k1=>
   have H:=HA.out;clear HA;simp only [shared_within.l0] at H
   rcases ifd H with ⟨c3b0,H⟩|⟨c3b0,H⟩
   ·obtain ⟨c4b0,H⟩:=ifd1 H;obtain ⟨c5b0,H⟩:=ifd1 H;obtain ⟨t17,t18,A6,H⟩:=zO H
    dsimp only at H
    have HC7:=zA H;clear H;obtain ⟨p15,q15,ad15,A15_0,c15_0,A15_1,c15_1,e15,hx15_0,hx15_1,hl15_0,hi15_0,hl15_1,hi15_1⟩:=zp (at_T63 HR1.out x11_1)
    cases e15
    replace hx15_0:=zd HB hx15_0;replace hx15_1:=zd HB hx15_1;have HR15_0:=zA hi15_0;have HC15_0:=zA hl15_0;clear hi15_0 hl15_0;have HR15_1:=zA hi15_1;have HC15_1:=zA hl15_1;clear hi15_1 hl15_1;replace p15:=eq_true p15;replace q15:=eq_true q15
    go_upto_region 5 with (first|((with_reducible refine gd 6 rfl ?_);refine zx #[.slice none 0 0,.slice none 0 0] 63 ?_;intro gb16 hg w8 BK16 hb GW16 HB1;have GE16:=GW16;clear HB hb hg;have HB:=HB1;clear HB1;have hcz9_0:=zc0 BK16;have hcz9_1:=zc1 BK16;have hfz9_0:=zf BK16)|((with_reducible refine gate_store (t:=63) (p:=6) rfl ?_);refine store_event (t:=63) (p:=6) (v:=?vo_w10) (w1:=((w8.setCell ⟨gb16,0,none⟩ (.slice A15_0 ((rd_T63 l1 x11_1).f0).length c15_0)).setCell ⟨gb16,1,none⟩ (.slice A15_1 ((rd_T63 l1 x11_1).f1).length c15_1))) ?hg ?ho ?hn ?hr ?_;(case ho=>rfl);(case hg=>rfl);(case hn=>rfl);(case hr=>first|(go_simp;done)|(go_simp;rfl));intro w10 hw;replace BK16:Aside0 (w10.heap[gb16]?=some (.cells #[.slice A15_0 ((rd_T63 l1 x11_1).f0).length c15_0,.slice A15_1 ((rd_T63 l1 x11_1).f1).length c15_1] 63 (0,0))):=⟨(by rw [hw];exact (by refine zj ?_;refine blk_put (cs:=#[.slice A15_0 ((rd_T63 l1 x11_1).f0).length c15_0,.slice none 0 0]) ?_ 1 _ rfl;refine zj ?_;refine blk_put (cs:=#[.slice none 0 0,.slice none 0 0]) ?_ 0 _ rfl;refine zj ?_;exact BK16.out))⟩;replace HB:Aside0 (Below w.heap.size w w10):=⟨(by rw [hw];exact zB)⟩;clear hw;have hcz11_0:=zc0 BK16;have hcz11_1:=zc1 BK16;have hfz11_0:=zf BK16)|((with_reducible refine gate_callee (f:=31) rfl ?_);refine zgo 18 Tryz.func31 #[.slice A0 l0.length c0,.agg #[.slice A15_0 ((rd_T63 l1 x11_1).f0).length c15_0,.slice A15_1 ((rd_T63 l1 x11_1).f1).length c15_1]] ?_;(with_reducible refine (shared_Implied.calls k1 (fun k_=>k_<w.heap.size) _ _ l0 (fun k_=>k_<w.heap.size) _ _ ((rd_T63 l1 x11_1).f0) _ _ ((rd_T63 l1 x11_1).f1) t17 t18 _ ?side1 ?side2 (zD HR15_1 HB) HC15_1.out A6.out).mono ?_);(case side1=>exact Kd.V_mk HC0.out (Kd.F_below (Kd.C_F k63_heap HR0.out) zB));(case side2=>exact Kd.V_mk HC15_0.out (Kd.F_below (Kd.C_F (Kd.heap_int .i64) HR15_0.out) zB));rintro e w12 ⟨rfl,hb⟩;refine ⟨_,rfl,?_⟩;replace BK16:=zw BK16 hb;replace HB:=zu hb;clear hb))
    (try simp only [Act.put,zi,zs,zt]);have H:=HC7.out;clear HC7
    rcases ife H with ⟨c13b0,c13b1,H⟩|⟨c13,c13b0,c13b1,H⟩
    ·(first|rw [c13b0]|(simp only [i64_w,i32_w];rw [c13b0])|skip)
     (try rw [c13b1])
     by_cases c14:t17=true
     ·subst c14
      have H1:(shared_within.l0 k1 l0 l1 (l1.length:Int) (wrap64 (x11_1+1)))=some r:=by rw [if_pos rfl] at H;exact H
      clear H;have H:=H1;clear H1;have H':=zA H;clear H
      go_wp2
      go_roundg k1
      case measure=>have:=HK1.out;omega
      case rel=>exact ⟨(wrap64 (x11_1+1)),zT,H',⟨by have:=HK1.out;omega⟩,⟨zv1 HB GE16⟩⟩
     ·replace c14:=Bool.eq_false_iff.mpr c14;subst c14
      have H1:(some false)=some r:=by rw [if_neg (show ¬ (false=true) by decide)] at H;exact H
      clear H;have H:=H1;clear H1;obtain rfl:=Option.some.inj H
      go_wp2
      go_ret
      exact ⟨ze,zv1 HB GE16⟩
    ·(first|rw [c13b0]|(simp only [i64_w,i32_w];rw [c13b0])|skip)
     (try rw [c13b1]);obtain rfl:=Option.some.inj H
     go_wp2
     go_ret
     exact ⟨ze,zv1 HB GE16⟩
   ·obtain rfl:=Option.some.inj H
    go_wp2
    go_ret
    exact ⟨ze,zv0 HB⟩
end Go.Proofs.YtngpkbbljnbojaaGreat.L
