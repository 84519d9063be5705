import Derived.Test.YtngpkbbljnbojaaGreatL0
import Derived.Test.YtngpkbbljnbojaaGreatL11
import Derived.Test.YtngpkbbljnbojaaGreatL12
namespace Go.Proofs.YtngpkbbljnbojaaGreat.L
open Go.RowKit Go.Proofs.YtngpkbbljnbojaaGreatW.PrintWords Go.Proofs.YtngpkbbljnbojaaGreatW.PrintLast Go.Proofs.YtngpkbbljnbojaaGreatW.PrintMore
attribute [local go_sem] max2_int min2_int max_two min_two max_three min_three max_four min_four Tryz.underlying3 Tryz.underlying53 Tryz.underlying63
set_option linter.unusedVariables false
set_option linter.unusedSimpArgs false
def ancepsref41_open.l0:Nat→List (S63)→List Int→List Int→Int→Option (List Int)
 | 0,_,_,_,_=>none
 | k+1,x0,x3,x4,x5=>if x5<(x4.length:Int) then (if 0≤x5 then ((ancepsref41_Value.f k x0 (rd x4 x5)).bind fun bt86=>(if bt86.1=3 then (if x3.length<17592186044416 then (ancepsref41_open.l0 k x0 (x3++[rd x4 x5]) x4 (wrap64 (x5+1))) else (none)) else (ancepsref41_open.l0 k x0 x3 x4 (wrap64 (x5+1))))) else (none)) else (some x3)
def ancepsref41_open.f (k:Nat) (l0:List (S63)):Option (List Int):=(ancepsref40_Vars.f k l0).bind fun t66=>(ancepsref41_open.l0 k l0 ([]:List Int) t66 0)
set_option maxHeartbeats 8000000 in
set_option maxRecDepth 100000 in
theorem ancepsref41_open.calls (k:Nat) (A0:Option Addr) (c0:Nat) (l0:List (S63)) (r:List Int) (w:World) (hr0:Kd.C k63 w A0 l0.length l0) (hc0:l0.length≤c0) (h:ancepsref41_open.f k l0=some r) :
  Calls Tryz.prog 61 #[.slice A0 l0.length c0] w fun e w'=>∃ v0_:Value,e=.returned (v0_)∧Kd.R (Kd.int .i64) 3 w' w.heap.size (fun _=>True) v0_ r∧Below w.heap.size w w':=by
 have HR0:=zA hr0;have HC0:=zA hc0;clear hr0 hc0;have HB:=zA (Below.refl w.heap.size w);have H:((ancepsref40_Vars.f k l0).bind fun t66=>(ancepsref41_open.l0 k l0 ([]:List Int) t66 0))=some r:=h;clear h;obtain ⟨t66,A2,H⟩:=zo H;have H':=zA H;clear H
 go_enter Tryz.func61,Tryz.ntmps61
 go_wp2_with (first|((with_reducible refine gate_callee (f:=34) rfl ?_);refine zgo 9 Tryz.func34 #[.slice A0 l0.length c0] ?_;(with_reducible refine (ancepsref40_Vars.calls k _ _ l0 t66 _ ?side1 HC0.out A2.out).mono ?_);(case side1=>repeat (first|exact HR0.out|(with_reducible refine Kd.C_alloc ?_ _)|(with_reducible refine Kd.C_drewN ?_ _)|(with_reducible refine Kd.C_drew ?_)));rintro e w3 ⟨v88,rfl,ho0,hb⟩;refine ⟨_,rfl,?_⟩;have HO90:=zA (Kd.R_lower ho0 (below_size zB));replace HB:=zu hb;clear hb;(try clear ho0)))
 go_loopg [3,5] k (fun kq v3 v5 w'=>∃ (x3_1:List Int) (x5_1:Int),v5=.int .i64 x5_1∧Aside0 (ancepsref41_open.l0 kq l0 x3_1 t66 x5_1=some r)∧Aside0 (kq≤k)∧Aside0 (Kd.R (Kd.int .i64) 3 w' w.heap.size (fun k_=>some k_≠(v88:Value).ownBlock) v3 x3_1)∧Aside0 (Kd.R (Kd.int .i64) 3 w' w.heap.size (fun k_=>some k_≠(v3:Value).ownBlock) v88 t66)∧Aside0 (Below w.heap.size w w'))
 case atStart=>exact ⟨(([]:List Int)),(0),zT,H',⟨Nat.le_refl _⟩,⟨by first|exact Kd.R_nil _ _ _ _ _|exact Kd.N_nil _ _ _ _ _|exact Kd.V_nil _ _ _ _ _|exact Kd.Q_nil _ _ _ _ _|exact Kd.S_nil _ _ _ _ _⟩,⟨by refine zr ?_;exact Kd.R_mono HO90.out (fun _ hk=>(by simp [Value.ownBlock]))⟩,⟨zv0 HB⟩⟩
 case round=>
  clear H';obtain ⟨x3_1,x5_1,rfl,HA,HK1,HO_3,HO_4,HB⟩:=hrel
  cases gk with
  | zero=>exact absurd HA.out (by simp [ancepsref41_open.l0])
  | succ k1=>
   have H:=HA.out;clear HA;simp only [ancepsref41_open.l0] at H
   rcases ifd H with ⟨c4b0,H⟩|⟨c4b0,H⟩
   ·obtain ⟨c5b0,H⟩:=ifd1 H;obtain ⟨t86,t91,A6,H⟩:=zO H
    dsimp only at H
    have HC7:=zA H;clear H;obtain ⟨Ao8,co8,eo8⟩:=Kd.R_slice HO_4.out;subst eo8;obtain ⟨p74,q74,ad74,e74,hx74_0⟩:=zp (Kd.at_int (Kd.R_reads' HO_4.out).2.2 x5_1)
    cases e74
    replace p74:=eq_true p74;replace q74:=eq_true q74
    go_upto_if 26 with (first|((with_reducible refine gate_callee (f:=95) rfl ?_);refine zgo 22 Tryz.func95 #[.slice A0 l0.length c0,.int .i64 (rd t66 x5_1)] ?_;(with_reducible refine (ancepsref41_Value.calls k1 _ _ l0 (rd t66 x5_1) t86 t91 _ (zD HR0 HB) HC0.out A6.out).mono ?_);rintro e w9 ⟨rfl,hb⟩;refine ⟨_,rfl,?_⟩;replace HO_3:=zA (Kd.R_below (zR HO_3) hb);replace HO_4:=zA (Kd.R_below (zR HO_4) hb);replace HB:=zu hb;clear hb))
    (try simp only [Act.put,zi,zs,zt]);have H:=HC7.out;clear HC7
    rcases ife H with ⟨c10b0,c10b1,H⟩|⟨c10,c10b0,c10b1,H⟩
    ·(first|rw [c10b0]|(simp only [i64_w,i32_w];rw [c10b0])|skip)
     (try rw [c10b1]);obtain ⟨c11,H⟩:=if1 H;have LMc11:=zA c11;clear c11
     first|(replace H:=zyb (x3_1++[rd t66 x5_1]) H;obtain ⟨y78,Ny78,H⟩:=H)|(obtain ⟨y78,hy78⟩:=zY (x3_1++[rd t66 x5_1]);(try rw (occs:=.pos [1]) [← hy78] at H);have Ny78:=zA hy78;clear hy78)
     have H':=zA H;clear H;obtain ⟨p75,q75,ad75,e75,hx75_0⟩:=zp (Kd.at_int (Kd.R_reads' HO_4.out).2.2 x5_1)
     obtain rfl:ad74=ad75:=(by injection e75)
     replace p75:=eq_true p75;replace q75:=eq_true q75
     go_wp2_with (first|((with_reducible refine gate_builtin (b:=.append) (xs:=#[.tmp 27,.tmp 32]) rfl ?_);at_builtin;refine Kd.R_append (Kd.int .i64) (w0:=w) w.heap.size rfl (.tmp 27) (.tmp 32) 43 3 (.int .i64 0) 8 rfl Tryz.underlying43 info3 rfl (by decide) (by omega) u3 x3_1 (rd t66 x5_1) [.int .i64 (rd t66 x5_1)] (fun k_=>some k_≠(.slice (some ad74) t66.length co8:Value).ownBlock) (fun _=>False) rfl rfl ?aP (fun _ hk=>hk.elim) ?aF ?aO ?aB ?aS ?aL ?_;(case aP=>exact rfl);(case aB=>exact zB);(case aF=>exact (fun k_ hk=>Kd.fresh' (Kd.R_lt (zR HO_4)) k_ hk));(case aO=>exact (zR HO_3));(case aS=>exact (below_size zB));(case aL=>have:=LMc11.out;omega);intro v98 w12 ho hb hg hat;rw [← Ny78.out] at ho;have HO92:=zA (ho);replace HO_4:=zA (Kd.R_after (ok:=(fun _=>True)) (by refine zr ?_;exact Kd.R_mono HO_4.out (fun _ hk=>⟨trivial,hk⟩)) hg hat);replace HB:=zA (hb);clear HO_3;clear ho hb hg hat))
     go_roundg k1
     case measure=>have:=HK1.out;omega
     case rel=>exact ⟨(y78),(wrap64 (x5_1+1)),zT,H',⟨by have:=HK1.out;omega⟩,⟨by refine zr ?_;exact HO92.out⟩,⟨by refine zr ?_;exact Kd.R_mono HO_4.out (fun _ hk=>hk.2)⟩,⟨zv0 HB⟩⟩
    ·(first|rw [c10b0]|(simp only [i64_w,i32_w];rw [c10b0])|skip)
     (try rw [c10b1]);have H':=zA H;clear H
     go_wp2
     go_roundg k1
     case measure=>have:=HK1.out;omega
     case rel=>exact ⟨(x3_1),(wrap64 (x5_1+1)),zT,H',⟨by have:=HK1.out;omega⟩,⟨by refine zr ?_;exact HO_3.out⟩,⟨by refine zr ?_;exact HO_4.out⟩,⟨zv0 HB⟩⟩
   ·obtain rfl:=Option.some.inj H;obtain ⟨Ao13,co13,eo13⟩:=Kd.R_slice HO_4.out;subst eo13
    go_wp2
    go_ret
    exact ⟨_,ze,by refine zr ?_;exact Kd.R_mono HO_3.out (fun _ hk=>trivial),zv0 HB⟩
def ancepsref41_added.f (l0:List (S63)) (l1_0:List Int) (l1_1:List Int):Option ((List (S63))):=(some (([]:List (S63)):List (S63))).bind fun y51=>(if y51.length+l0.length<2932031007402 then ((some (y51++l0:List (S63))).bind fun y55=>((some (([(⟨l1_0,l1_1⟩:S63)]:List (S63)):List (S63))).bind fun y49=>(if y55.length+y49.length<2932031007402 then (some (y55++y49)) else (none)))) else (none))
set_option maxHeartbeats 8000000 in
set_option maxRecDepth 100000 in
theorem ancepsref41_added.calls (P0_:Nat→Prop) (A0:Option Addr) (c0:Nat) (l0:List (S63)) (P1_0_:Nat→Prop) (A1_0:Option Addr) (c1_0:Nat) (l1_0:List Int) (P1_1_:Nat→Prop) (A1_1:Option Addr) (c1_1:Nat) (l1_1:List Int) (r:List (S63)) (w:World) (hs0:Kd.V k63 63 w w.heap.size (fun k_=>P0_ k_) (.slice A0 l0.length c0) l0) (hs1_0:Kd.V (Kd.int .i64) 3 w w.heap.size (fun k_=>P1_0_ k_) (.slice A1_0 l1_0.length c1_0) l1_0) (hs1_1:Kd.V (Kd.int .i64) 3 w w.heap.size (fun k_=>P1_1_ k_) (.slice A1_1 l1_1.length c1_1) l1_1) (h:ancepsref41_added.f l0 l1_0 l1_1=some r) :
  Calls Tryz.prog 62 #[.slice A0 l0.length c0,.agg #[.slice A1_0 l1_0.length c1_0,.slice A1_1 l1_1.length c1_1]] w fun e w'=>∃ v0_:Value,e=.returned (v0_)∧Kd.N k63 63 w' w.heap.size (fun k_=>((P0_ k_∨P1_0_ k_∨P1_1_ k_)∨w.heap.size≤k_)) v0_ r∧Below w.heap.size w w':=by
 have HO0:=zA (show Kd.V k63 63 w w.heap.size (fun k_=>((P0_ k_∨P1_0_ k_∨P1_1_ k_)∨w.heap.size≤k_)) (.slice A0 l0.length c0) l0 from Kd.V_mono hs0 (fun k_ hk=>.inl (.inl hk)));have HO1_0:=zA (show Kd.V (Kd.int .i64) 3 w w.heap.size (fun k_=>((P0_ k_∨P1_0_ k_∨P1_1_ k_)∨w.heap.size≤k_)) (.slice A1_0 l1_0.length c1_0) l1_0 from Kd.V_mono hs1_0 (fun k_ hk=>.inl (.inr (.inl hk))));have HO1_1:=zA (show Kd.V (Kd.int .i64) 3 w w.heap.size (fun k_=>((P0_ k_∨P1_0_ k_∨P1_1_ k_)∨w.heap.size≤k_)) (.slice A1_1 l1_1.length c1_1) l1_1 from Kd.V_mono hs1_1 (fun k_ hk=>.inl (.inr (.inr hk))));have HB:=zA (Below.refl w.heap.size w);have H:((some (([]:List (S63)):List (S63))).bind fun y51=>(if y51.length+l0.length<2932031007402 then ((some (y51++l0:List (S63))).bind fun y55=>((some (([(⟨l1_0,l1_1⟩:S63)]:List (S63)):List (S63))).bind fun y49=>(if y55.length+y49.length<2932031007402 then (some (y55++y49)) else (none)))) else (none)))=some r:=h;clear h
 first|(replace H:=zyb (([]:List (S63))) H;obtain ⟨y51,Ny51,H⟩:=H)|(obtain ⟨y51,hy51⟩:=zY (([]:List (S63)));(try rw (occs:=.pos [1]) [← hy51] at H);have Ny51:=zA hy51;clear hy51)
 obtain ⟨c3,H⟩:=if1 H;have LMc3:=zA c3;clear c3
 first|(replace H:=zyb (y51++l0) H;obtain ⟨y55,Ny55,H⟩:=H)|(obtain ⟨y55,hy55⟩:=zY (y51++l0);(try rw (occs:=.pos [1]) [← hy55] at H);have Ny55:=zA hy55;clear hy55)
 first|(replace H:=zyb (([(⟨l1_0,l1_1⟩:S63)]:List (S63))) H;obtain ⟨y49,Ny49,H⟩:=H)|(obtain ⟨y49,hy49⟩:=zY (([(⟨l1_0,l1_1⟩:S63)]:List (S63)));(try rw (occs:=.pos [1]) [← hy49] at H);have Ny49:=zA hy49;clear hy49)
 obtain ⟨c4,H⟩:=if1 H;have LMc4:=zA c4;clear c4
 first|(replace H:=zyb (y55++y49) H;obtain ⟨y81,Ny81,H⟩:=H)|(obtain ⟨y81,hy81⟩:=zY (y55++y49);(try rw (occs:=.pos [1]) [← hy81] at H);have Ny81:=zA hy81;clear hy81)
 obtain rfl:=Option.some.inj H
 go_enter Tryz.func62,Tryz.ntmps62
 try go_wp2_with (first|((with_reducible refine gd 3 rfl ?_);refine zx #[.slice A1_0 l1_0.length c1_0,.slice A1_1 l1_1.length c1_1] 63 ?_;intro gb44 hg w5 BK44 hb GW44 HB1;have GE44:=GW44;replace HO0:=zA (Kd.V_below (Kd.V_elderB (zV HO0) gb44 (Nat.le_of_eq hg.symm)) hb);replace HO1_0:=zA (Kd.V_below (Kd.V_elderB (zV HO1_0) gb44 (Nat.le_of_eq hg.symm)) hb);replace HO1_1:=zA (Kd.V_below (Kd.V_elderB (zV HO1_1) gb44 (Nat.le_of_eq hg.symm)) hb);clear HB hb hg;have HB:=HB1;clear HB1))
 replace HO0:=zA (Kd.V_drew HO0.out);replace HO1_0:=zA (Kd.V_drew HO1_0.out);replace HO1_1:=zA (Kd.V_drew HO1_1.out);replace BK44:=zA (blk_drew BK44.out);replace HB:=zA (below_drew1 HB.out);refine start_ (n:=7) (S:=fun w'=>w'.cell? ⟨gb44,0,none⟩=some (.slice A1_0 l1_0.length c1_0)∧w'.cell? ⟨gb44,1,none⟩=some (.slice A1_1 l1_1.length c1_1)) (ds:=[]) (bz 7 0) zK rfl rfl ⟨zc0 BK44,zc1 BK44⟩ (fun hHeld=>?_)
 generalize w5.drew=w6 at HO0 HO1_0 HO1_1 BK44 HB hHeld ⊢
 refine pure_ (i:=1) (N:=some 6) (v:=?_) (a':=?_) (bz 7 2) rfl rfl zK (fun _ _ _ h=>h) (Or.inl ⟨by rfl,?_⟩) ?_ ?_;rotate_left
 ·intro w'
  go_simp
  with_reducible rfl
 rotate_left
 ·simp only [Act.put,zi,zs,zt,i64_w,i32_w];rfl
 refine take_ (i:=3) (N:=some 8) (v:=?_) (a':=?_) (bz 7 10) rfl rfl zK (fun _ _ _ h=>h) (Or.inl ⟨by rfl,?_⟩) hHeld ?_ ?_;rotate_left
 ·rintro w' ⟨s0,s1⟩
  go_simp
  with_reducible rfl
 rotate_left
 ·simp only [Act.put,zi,zs,zt,i64_w,i32_w];rfl
 refine join_ (σ:=Value×Value×Value) 2 (bz 7 31) (fun s_=>[(5,s_.1),(7,s_.2.1),(9,s_.2.2)]) (fun s_ w'=>(w'.cell? ⟨gb44,0,none⟩=some (.slice A1_0 l1_0.length c1_0)∧w'.cell? ⟨gb44,1,none⟩=some (.slice A1_1 l1_1.length c1_1))∧(Kd.V k63 63 w' w.heap.size (fun k_=>((P0_ k_∨P1_0_ k_∨P1_1_ k_)∨w.heap.size≤k_)∧some k_≠(s_.2.1:Value).ownBlock∧some k_≠(s_.2.2:Value).ownBlock∧k_≠gb44) (.slice A0 l0.length c0) l0)∧(Kd.V (Kd.int .i64) 3 w' w.heap.size (fun k_=>((P0_ k_∨P1_0_ k_∨P1_1_ k_)∨w.heap.size≤k_)∧some k_≠(s_.2.1:Value).ownBlock∧some k_≠(s_.2.2:Value).ownBlock∧k_≠gb44) (.slice A1_0 l1_0.length c1_0) l1_0)∧(Kd.V (Kd.int .i64) 3 w' w.heap.size (fun k_=>((P0_ k_∨P1_0_ k_∨P1_1_ k_)∨w.heap.size≤k_)∧some k_≠(s_.2.1:Value).ownBlock∧some k_≠(s_.2.2:Value).ownBlock∧k_≠gb44) (.slice A1_1 l1_1.length c1_1) l1_1)∧(Kd.N k63 63 w' w.heap.size (fun k_=>((P0_ k_∨P1_0_ k_∨P1_1_ k_)∨w.heap.size≤k_)∧some k_≠(s_.2.2:Value).ownBlock∧k_≠gb44) s_.2.1 y55)∧(Kd.N k63 63 w' w.heap.size (fun k_=>((P0_ k_∨P1_0_ k_∨P1_1_ k_)∨w.heap.size≤k_)∧some k_≠(s_.2.1:Value).ownBlock∧k_≠gb44) s_.2.2 y49)∧(w'.heap[gb44]?=some (.cells #[.slice A1_0 l1_0.length c1_0,.slice A1_1 l1_1.length c1_1] 63 (0,0)))∧(Below w.heap.size w w')) ?_ ?_;rotate_left
 ·intro hCont;refine two_ (i:=0) (j:=4) (Ni:=some 5) (Nj:=some 9) (bz 7 11) (bz 7 26) rfl rfl rfl rfl zK (by decide) (by decide) (fun K hK=>?_) (fun K hK=>?_)
  ·skip;refine Kd.N_lit_step k63 _ 63 ?hg (N':=5) ?hd (xs:=([]:List (S63))) (inner:=[]) (ok:=(fun k_=>((P0_ k_∨P1_0_ k_∨P1_1_ k_)∨w.heap.size≤k_)∧k_≠gb44)) (okp:=(fun k_=>((P0_ k_∨P1_0_ k_∨P1_1_ k_)∨w.heap.size≤k_)∧k_≠gb44)) ?hr ?hp (fun _ hk=>hk) ((show ∀ k_,w6.heap.size≤k_→(fun k_=>((P0_ k_∨P1_0_ k_∨P1_1_ k_)∨w.heap.size≤k_)∧k_≠gb44) k_ from fun k_ hk=>⟨(.inr (Nat.le_trans (below_size zB) hk)),Kd.freshB (g:=gb44) (o:=.cells #[.slice A1_0 l1_0.length c1_0,.slice A1_1 l1_1.length c1_1] 63 (0,0)) (zk BK44) k_ hk⟩) _ (Nat.le_refl _)) (Below.refl _ _) (Nat.le_refl _) (by simp) ?_;(case hd=>rfl);(case hg=>rfl);(case hr=>first|(go_simp;done)|(go_simp;rfl));(case hp=>exact (Reps.none _ _));intro v56 w7 ho8 hb hg_ hnew_;clear hg_ hnew_
   (first|rw [← Ny51.out] at ho8|(simp only [Int.reduceToNat] at ho8;rw [← Ny51.out] at ho8))
   have HO68:=zA (Kd.N_lower ho8 (below_size zB));replace HO0:=zA (Kd.V_elder' (zV HO0) (Kd.N_base ho8) hb);replace HO1_0:=zA (Kd.V_elder' (zV HO1_0) (Kd.N_base ho8) hb);replace HO1_1:=zA (Kd.V_elder' (zV HO1_1) (Kd.N_base ho8) hb);replace BK44:=zw BK44 hb;replace HB:=zu hb;clear hb ho8;refine hK.out _ _ ⟨zc0 BK44,zc1 BK44⟩ (fun hHeld=>?_);clear hK K;refine norm_ (a':=?_) ?_ ?_;rotate_left
   ·show Act.put _ (some 5) _=_
    simp only [Act.put,zi,zs,zt,i64_w,i32_w];rfl
   refine two_ (i:=2) (j:=4) (Ni:=some 7) (Nj:=some 9) (bz 7 15) (bz 7 27) rfl rfl rfl rfl zK (by decide) (by decide) (fun K hK=>?_) (fun K hK=>?_)
   ·skip;refine Kd.N_append_rows_step k63 (w0:=w) w.heap.size (by rfl) (.tmp 5) (.tmp 6) 22 63 (.agg #[(.slice none 0 0),(.slice none 0 0)]) 48 rfl Tryz.underlying22 info63 rfl (by decide) (by omega) v56 y51 l0 _ _ _ (fun k_=>((P0_ k_∨P1_0_ k_∨P1_1_ k_)∨w.heap.size≤k_)∧k_≠gb44) (fun k_=>((fun k_=>((P0_ k_∨P1_0_ k_∨P1_1_ k_)∨w.heap.size≤k_)∧k_≠gb44)) k_∧some k_≠(v56:Value).ownBlock) rfl rfl ?aO ?aR (fun _ hk=>hk) ?aF ?aB ?aS ?aL ?_;(case aR=>exact (by skip;exact Kd.V_F (Kd.V_mono (ok':=(fun k_=>((fun k_=>((P0_ k_∨P1_0_ k_∨P1_1_ k_)∨w.heap.size≤k_)∧k_≠gb44)) k_∧some k_≠(v56:Value).ownBlock)) (HO0.out) (fun k_ hk=>⟨⟨hk.1.1,hk.1.2⟩,hk.2⟩))));(case aB=>exact zB);(case aF=>exact (fun k_ hk=>⟨(.inr (Nat.le_trans (below_size zB) hk)),Kd.freshB (g:=gb44) (o:=.cells #[.slice A1_0 l1_0.length c1_0,.slice A1_1 l1_1.length c1_1] 63 (0,0)) (zk BK44) k_ hk⟩));(case aO=>exact (zN HO68));(case aS=>exact (below_size zB));(case aL=>have:=LMc3.out;omega);intro v57 w9 ho hb hg hat;rw [← Ny55.out] at ho;have HO70:=zA (ho);replace HO0:=zA (Kd.V_afterv (ok:=(fun k_=>((P0_ k_∨P1_0_ k_∨P1_1_ k_)∨w.heap.size≤k_)∧k_≠gb44)) (zV HO0) hg hat);replace HO1_0:=zA (Kd.V_afterv (ok:=(fun k_=>((P0_ k_∨P1_0_ k_∨P1_1_ k_)∨w.heap.size≤k_)∧k_≠gb44)) (zV HO1_0) hg hat);replace HO1_1:=zA (Kd.V_afterv (ok:=(fun k_=>((P0_ k_∨P1_0_ k_∨P1_1_ k_)∨w.heap.size≤k_)∧k_≠gb44)) (zV HO1_1) hg hat);replace BK44:=zA (blk_grown (g:=gb44) (o:=.cells #[.slice A1_0 l1_0.length c1_0,.slice A1_1 l1_1.length c1_1] 63 (0,0)) (zk BK44) hg (Kd.N_away HO68.out (fun _ hk=>hk.2)));replace HB:=zA (hb);clear HO68;clear ho hb hg hat;refine hK.out _ _ ⟨zc0 BK44,zc1 BK44⟩ (fun hHeld=>?_);clear hK K;refine norm_ (a':=?_) ?_ ?_;rotate_left
    ·show Act.put _ (some 7) _=_
     simp only [Act.put,zi,zs,zt,i64_w,i32_w];rfl
    refine one_ (i:=4) (N:=some 9) (bz 7 31) rfl rfl zK (by decide) (fun K hK=>?_);refine Kd.N_lit_step k63 _ 63 ?hg (N':=9) ?hd (xs:=([(⟨l1_0,l1_1⟩:S63)]:List (S63))) (inner:=[.slice A1_0 l1_0.length c1_0,.slice A1_1 l1_1.length c1_1]) (ok:=(fun k_=>((P0_ k_∨P1_0_ k_∨P1_1_ k_)∨w.heap.size≤k_)∧some k_≠(v57:Value).ownBlock∧k_≠gb44)) (okp:=(fun k_=>((P0_ k_∨P1_0_ k_∨P1_1_ k_)∨w.heap.size≤k_)∧some k_≠(v57:Value).ownBlock∧k_≠gb44)) ?hr ?hp (fun _ hk=>hk) ((show ∀ k_,w9.heap.size≤k_→(fun k_=>((P0_ k_∨P1_0_ k_∨P1_1_ k_)∨w.heap.size≤k_)∧some k_≠(v57:Value).ownBlock∧k_≠gb44) k_ from fun k_ hk=>⟨(.inr (Nat.le_trans (below_size zB) hk)),Kd.fresh' (Kd.N_lt (zN HO70)) k_ hk,Kd.freshB (g:=gb44) (o:=.cells #[.slice A1_0 l1_0.length c1_0,.slice A1_1 l1_1.length c1_1] 63 (0,0)) (zk BK44) k_ hk⟩) _ (Nat.le_refl _)) (Below.refl _ _) (Nat.le_refl _) (by simp) ?_;(case hd=>rfl);(case hg=>rfl);(case hr=>first|(go_simp;done)|(go_simp;rfl));(case hp=>exact (Reps.c2 (show Kd.FK k63 _ _ (⟨l1_0,l1_1⟩:S63) [.slice A1_0 l1_0.length c1_0,.slice A1_1 l1_1.length c1_1] from (k63_mkF _ _ (⟨l1_0,l1_1⟩:S63) (Kd.V_reads' (Kd.V_mono (ok':=(fun k_=>((P0_ k_∨P1_0_ k_∨P1_1_ k_)∨w.heap.size≤k_)∧some k_≠(v57:Value).ownBlock∧k_≠gb44)) (HO1_0.out) (fun k_ hk=>⟨hk.1.1,⟨hk.2,hk.1.2⟩⟩))).2.1 (Kd.V_F (Kd.V_mono (ok':=(fun k_=>((P0_ k_∨P1_0_ k_∨P1_1_ k_)∨w.heap.size≤k_)∧some k_≠(v57:Value).ownBlock∧k_≠gb44)) (HO1_0.out) (fun k_ hk=>⟨hk.1.1,⟨hk.2,hk.1.2⟩⟩))) (Kd.V_reads' (Kd.V_mono (ok':=(fun k_=>((P0_ k_∨P1_0_ k_∨P1_1_ k_)∨w.heap.size≤k_)∧some k_≠(v57:Value).ownBlock∧k_≠gb44)) (HO1_1.out) (fun k_ hk=>⟨hk.1.1,⟨hk.2,hk.1.2⟩⟩))).2.1 (Kd.V_F (Kd.V_mono (ok':=(fun k_=>((P0_ k_∨P1_0_ k_∨P1_1_ k_)∨w.heap.size≤k_)∧some k_≠(v57:Value).ownBlock∧k_≠gb44)) (HO1_1.out) (fun k_ hk=>⟨hk.1.1,⟨hk.2,hk.1.2⟩⟩))))) (Reps.none _ _)));intro v50 w10 ho11 hb hg_ hnew_;clear hg_ hnew_
    (first|rw [← Ny49.out] at ho11|(simp only [Int.reduceToNat] at ho11;rw [← Ny49.out] at ho11))
    have HO58:=zA (Kd.N_lower ho11 (below_size zB));replace HO0:=zA (Kd.V_elder' (zV HO0) (Kd.N_base ho11) hb);replace HO1_0:=zA (Kd.V_elder' (zV HO1_0) (Kd.N_base ho11) hb);replace HO1_1:=zA (Kd.V_elder' (zV HO1_1) (Kd.N_base ho11) hb);replace HO70:=zA (Kd.N_elder' (zN HO70) (Kd.N_base ho11) hb);replace BK44:=zw BK44 hb;replace HB:=zu hb;clear hb ho11;refine hK.out _ _ ⟨zc0 BK44,zc1 BK44⟩ (fun hHeld=>?_);clear hK K;refine norm_ (a':=?_) ?_ ?_;rotate_left
    ·show Act.put _ (some 9) _=_
     simp only [Act.put,zi,zs,zt,i64_w,i32_w];rfl
    exact norm_ (by simp only [putAll,Act.put,zi,zs,zt]) (hCont (v56,v57,v50) _ ⟨hHeld,(by (with_reducible repeat (first|apply Kd.V_alloc|apply Kd.V_drewN|apply Kd.V_drew));exact Kd.V_mono HO0.out (fun _ hk=>⟨hk.1.1.1,⟨hk.1.2,⟨hk.2,hk.1.1.2⟩⟩⟩)),(by (with_reducible repeat (first|apply Kd.V_alloc|apply Kd.V_drewN|apply Kd.V_drew));exact Kd.V_mono HO1_0.out (fun _ hk=>⟨hk.1.1.1,⟨hk.1.2,⟨hk.2,hk.1.1.2⟩⟩⟩)),(by (with_reducible repeat (first|apply Kd.V_alloc|apply Kd.V_drewN|apply Kd.V_drew));exact Kd.V_mono HO1_1.out (fun _ hk=>⟨hk.1.1.1,⟨hk.1.2,⟨hk.2,hk.1.1.2⟩⟩⟩)),(by (with_reducible repeat (first|apply Kd.N_alloc|apply Kd.N_drewN|apply Kd.N_drew));exact Kd.N_mono HO70.out (fun _ hk=>⟨hk.1.1,⟨hk.2,hk.1.2⟩⟩)),(zN HO58),(zk BK44),zB⟩)
   ·skip;refine Kd.N_lit_step k63 _ 63 ?hg (N':=9) ?hd (xs:=([(⟨l1_0,l1_1⟩:S63)]:List (S63))) (inner:=[.slice A1_0 l1_0.length c1_0,.slice A1_1 l1_1.length c1_1]) (ok:=(fun k_=>((P0_ k_∨P1_0_ k_∨P1_1_ k_)∨w.heap.size≤k_)∧some k_≠(v56:Value).ownBlock∧k_≠gb44)) (okp:=(fun k_=>((P0_ k_∨P1_0_ k_∨P1_1_ k_)∨w.heap.size≤k_)∧some k_≠(v56:Value).ownBlock∧k_≠gb44)) ?hr ?hp (fun _ hk=>hk) ((show ∀ k_,w7.heap.size≤k_→(fun k_=>((P0_ k_∨P1_0_ k_∨P1_1_ k_)∨w.heap.size≤k_)∧some k_≠(v56:Value).ownBlock∧k_≠gb44) k_ from fun k_ hk=>⟨(.inr (Nat.le_trans (below_size zB) hk)),Kd.fresh' (Kd.N_lt (zN HO68)) k_ hk,Kd.freshB (g:=gb44) (o:=.cells #[.slice A1_0 l1_0.length c1_0,.slice A1_1 l1_1.length c1_1] 63 (0,0)) (zk BK44) k_ hk⟩) _ (Nat.le_refl _)) (Below.refl _ _) (Nat.le_refl _) (by simp) ?_;(case hd=>rfl);(case hg=>rfl);(case hr=>first|(go_simp;done)|(go_simp;rfl));(case hp=>exact (Reps.c2 (show Kd.FK k63 _ _ (⟨l1_0,l1_1⟩:S63) [.slice A1_0 l1_0.length c1_0,.slice A1_1 l1_1.length c1_1] from (k63_mkF _ _ (⟨l1_0,l1_1⟩:S63) (Kd.V_reads' (Kd.V_mono (ok':=(fun k_=>((P0_ k_∨P1_0_ k_∨P1_1_ k_)∨w.heap.size≤k_)∧some k_≠(v56:Value).ownBlock∧k_≠gb44)) (HO1_0.out) (fun k_ hk=>⟨hk.1.1,⟨hk.2,hk.1.2⟩⟩))).2.1 (Kd.V_F (Kd.V_mono (ok':=(fun k_=>((P0_ k_∨P1_0_ k_∨P1_1_ k_)∨w.heap.size≤k_)∧some k_≠(v56:Value).ownBlock∧k_≠gb44)) (HO1_0.out) (fun k_ hk=>⟨hk.1.1,⟨hk.2,hk.1.2⟩⟩))) (Kd.V_reads' (Kd.V_mono (ok':=(fun k_=>((P0_ k_∨P1_0_ k_∨P1_1_ k_)∨w.heap.size≤k_)∧some k_≠(v56:Value).ownBlock∧k_≠gb44)) (HO1_1.out) (fun k_ hk=>⟨hk.1.1,⟨hk.2,hk.1.2⟩⟩))).2.1 (Kd.V_F (Kd.V_mono (ok':=(fun k_=>((P0_ k_∨P1_0_ k_∨P1_1_ k_)∨w.heap.size≤k_)∧some k_≠(v56:Value).ownBlock∧k_≠gb44)) (HO1_1.out) (fun k_ hk=>⟨hk.1.1,⟨hk.2,hk.1.2⟩⟩))))) (Reps.none _ _)));intro v50 w9 ho10 hb hg_ hnew_;clear hg_ hnew_
    (first|rw [← Ny49.out] at ho10|(simp only [Int.reduceToNat] at ho10;rw [← Ny49.out] at ho10))
    have HO58:=zA (Kd.N_lower ho10 (below_size zB));replace HO0:=zA (Kd.V_elder' (zV HO0) (Kd.N_base ho10) hb);replace HO1_0:=zA (Kd.V_elder' (zV HO1_0) (Kd.N_base ho10) hb);replace HO1_1:=zA (Kd.V_elder' (zV HO1_1) (Kd.N_base ho10) hb);replace HO68:=zA (Kd.N_elder' (zN HO68) (Kd.N_base ho10) hb);replace BK44:=zw BK44 hb;replace HB:=zu hb;clear hb ho10;refine hK.out _ _ ⟨zc0 BK44,zc1 BK44⟩ (fun hHeld=>?_);clear hK K;refine norm_ (a':=?_) ?_ ?_;rotate_left
    ·show Act.put _ (some 9) _=_
     simp only [Act.put,zi,zs,zt,i64_w,i32_w];rfl
    refine one_ (i:=2) (N:=some 7) (bz 7 31) rfl rfl zK (by decide) (fun K hK=>?_);refine Kd.N_append_rows_step k63 (w0:=w) w.heap.size (by rfl) (.tmp 5) (.tmp 6) 22 63 (.agg #[(.slice none 0 0),(.slice none 0 0)]) 48 rfl Tryz.underlying22 info63 rfl (by decide) (by omega) v56 y51 l0 _ _ _ (fun k_=>((P0_ k_∨P1_0_ k_∨P1_1_ k_)∨w.heap.size≤k_)∧some k_≠(v50:Value).ownBlock∧k_≠gb44) (fun k_=>((fun k_=>((P0_ k_∨P1_0_ k_∨P1_1_ k_)∨w.heap.size≤k_)∧some k_≠(v50:Value).ownBlock∧k_≠gb44)) k_∧some k_≠(v56:Value).ownBlock) rfl rfl ?aO ?aR (fun _ hk=>hk) ?aF ?aB ?aS ?aL ?_;(case aR=>exact (by skip;exact Kd.V_F (Kd.V_mono (ok':=(fun k_=>((fun k_=>((P0_ k_∨P1_0_ k_∨P1_1_ k_)∨w.heap.size≤k_)∧some k_≠(v50:Value).ownBlock∧k_≠gb44)) k_∧some k_≠(v56:Value).ownBlock)) (HO0.out) (fun k_ hk=>⟨⟨hk.1.1.1,⟨hk.2,hk.1.1.2⟩⟩,hk.1.2⟩))));(case aB=>exact zB);(case aF=>exact (fun k_ hk=>⟨(.inr (Nat.le_trans (below_size zB) hk)),Kd.fresh' (Kd.N_lt (zN HO58)) k_ hk,Kd.freshB (g:=gb44) (o:=.cells #[.slice A1_0 l1_0.length c1_0,.slice A1_1 l1_1.length c1_1] 63 (0,0)) (zk BK44) k_ hk⟩));(case aO=>exact (by (with_reducible repeat (first|apply Kd.N_alloc|apply Kd.N_drewN|apply Kd.N_drew));exact Kd.N_mono HO68.out (fun _ hk=>⟨hk.1.1,⟨hk.2,hk.1.2⟩⟩)));(case aS=>exact (below_size zB));(case aL=>have:=LMc3.out;omega);intro v57 w11 ho hb hg hat;rw [← Ny55.out] at ho;have HO70:=zA (ho);replace HO0:=zA (Kd.V_afterv (ok:=(fun k_=>((P0_ k_∨P1_0_ k_∨P1_1_ k_)∨w.heap.size≤k_)∧some k_≠(v50:Value).ownBlock∧k_≠gb44)) (by (with_reducible repeat (first|apply Kd.V_alloc|apply Kd.V_drewN|apply Kd.V_drew));exact Kd.V_mono HO0.out (fun _ hk=>⟨⟨hk.1.1.1,⟨hk.2,hk.1.1.2⟩⟩,hk.1.2⟩)) hg hat);replace HO1_0:=zA (Kd.V_afterv (ok:=(fun k_=>((P0_ k_∨P1_0_ k_∨P1_1_ k_)∨w.heap.size≤k_)∧some k_≠(v50:Value).ownBlock∧k_≠gb44)) (by (with_reducible repeat (first|apply Kd.V_alloc|apply Kd.V_drewN|apply Kd.V_drew));exact Kd.V_mono HO1_0.out (fun _ hk=>⟨⟨hk.1.1.1,⟨hk.2,hk.1.1.2⟩⟩,hk.1.2⟩)) hg hat);replace HO1_1:=zA (Kd.V_afterv (ok:=(fun k_=>((P0_ k_∨P1_0_ k_∨P1_1_ k_)∨w.heap.size≤k_)∧some k_≠(v50:Value).ownBlock∧k_≠gb44)) (by (with_reducible repeat (first|apply Kd.V_alloc|apply Kd.V_drewN|apply Kd.V_drew));exact Kd.V_mono HO1_1.out (fun _ hk=>⟨⟨hk.1.1.1,⟨hk.2,hk.1.1.2⟩⟩,hk.1.2⟩)) hg hat);replace BK44:=zA (blk_grown (g:=gb44) (o:=.cells #[.slice A1_0 l1_0.length c1_0,.slice A1_1 l1_1.length c1_1] 63 (0,0)) (zk BK44) hg (Kd.N_away HO68.out (fun _ hk=>hk.1.2)));replace HO58:=zA (Kd.N_afterv (ok:=(fun k_=>((P0_ k_∨P1_0_ k_∨P1_1_ k_)∨w.heap.size≤k_)∧k_≠gb44)) (by (with_reducible repeat (first|apply Kd.N_alloc|apply Kd.N_drewN|apply Kd.N_drew));exact Kd.N_mono HO58.out (fun _ hk=>⟨⟨hk.1,hk.2.2⟩,hk.2.1⟩)) hg hat);replace HB:=zA (hb);clear HO68;clear ho hb hg hat;refine hK.out _ _ ⟨zc0 BK44,zc1 BK44⟩ (fun hHeld=>?_);clear hK K;refine norm_ (a':=?_) ?_ ?_;rotate_left
    ·show Act.put _ (some 7) _=_
     simp only [Act.put,zi,zs,zt,i64_w,i32_w];rfl
    exact norm_ (by simp only [putAll,Act.put,zi,zs,zt]) (hCont (v56,v57,v50) _ ⟨hHeld,(by (with_reducible repeat (first|apply Kd.V_alloc|apply Kd.V_drewN|apply Kd.V_drew));exact Kd.V_mono HO0.out (fun _ hk=>⟨hk.1.1,⟨hk.2,⟨hk.1.2.1,hk.1.2.2⟩⟩⟩)),(by (with_reducible repeat (first|apply Kd.V_alloc|apply Kd.V_drewN|apply Kd.V_drew));exact Kd.V_mono HO1_0.out (fun _ hk=>⟨hk.1.1,⟨hk.2,⟨hk.1.2.1,hk.1.2.2⟩⟩⟩)),(by (with_reducible repeat (first|apply Kd.V_alloc|apply Kd.V_drewN|apply Kd.V_drew));exact Kd.V_mono HO1_1.out (fun _ hk=>⟨hk.1.1,⟨hk.2,⟨hk.1.2.1,hk.1.2.2⟩⟩⟩)),(zN HO70),(by (with_reducible repeat (first|apply Kd.N_alloc|apply Kd.N_drewN|apply Kd.N_drew));exact Kd.N_mono HO58.out (fun _ hk=>⟨hk.1.1,⟨hk.2,hk.1.2⟩⟩)),(zk BK44),zB⟩)
  ·skip;refine Kd.N_lit_step k63 _ 63 ?hg (N':=9) ?hd (xs:=([(⟨l1_0,l1_1⟩:S63)]:List (S63))) (inner:=[.slice A1_0 l1_0.length c1_0,.slice A1_1 l1_1.length c1_1]) (ok:=(fun k_=>((P0_ k_∨P1_0_ k_∨P1_1_ k_)∨w.heap.size≤k_)∧k_≠gb44)) (okp:=(fun k_=>((P0_ k_∨P1_0_ k_∨P1_1_ k_)∨w.heap.size≤k_)∧k_≠gb44)) ?hr ?hp (fun _ hk=>hk) ((show ∀ k_,w6.heap.size≤k_→(fun k_=>((P0_ k_∨P1_0_ k_∨P1_1_ k_)∨w.heap.size≤k_)∧k_≠gb44) k_ from fun k_ hk=>⟨(.inr (Nat.le_trans (below_size zB) hk)),Kd.freshB (g:=gb44) (o:=.cells #[.slice A1_0 l1_0.length c1_0,.slice A1_1 l1_1.length c1_1] 63 (0,0)) (zk BK44) k_ hk⟩) _ (Nat.le_refl _)) (Below.refl _ _) (Nat.le_refl _) (by simp) ?_;(case hd=>rfl);(case hg=>rfl);(case hr=>first|(go_simp;done)|(go_simp;rfl));(case hp=>exact (Reps.c2 (show Kd.FK k63 _ _ (⟨l1_0,l1_1⟩:S63) [.slice A1_0 l1_0.length c1_0,.slice A1_1 l1_1.length c1_1] from (k63_mkF _ _ (⟨l1_0,l1_1⟩:S63) (Kd.V_reads' (Kd.V_mono (ok':=(fun k_=>((P0_ k_∨P1_0_ k_∨P1_1_ k_)∨w.heap.size≤k_)∧k_≠gb44)) (HO1_0.out) (fun k_ hk=>⟨hk.1,hk.2⟩))).2.1 (Kd.V_F (Kd.V_mono (ok':=(fun k_=>((P0_ k_∨P1_0_ k_∨P1_1_ k_)∨w.heap.size≤k_)∧k_≠gb44)) (HO1_0.out) (fun k_ hk=>⟨hk.1,hk.2⟩))) (Kd.V_reads' (Kd.V_mono (ok':=(fun k_=>((P0_ k_∨P1_0_ k_∨P1_1_ k_)∨w.heap.size≤k_)∧k_≠gb44)) (HO1_1.out) (fun k_ hk=>⟨hk.1,hk.2⟩))).2.1 (Kd.V_F (Kd.V_mono (ok':=(fun k_=>((P0_ k_∨P1_0_ k_∨P1_1_ k_)∨w.heap.size≤k_)∧k_≠gb44)) (HO1_1.out) (fun k_ hk=>⟨hk.1,hk.2⟩))))) (Reps.none _ _)));intro v50 w7 ho8 hb hg_ hnew_;clear hg_ hnew_
   (first|rw [← Ny49.out] at ho8|(simp only [Int.reduceToNat] at ho8;rw [← Ny49.out] at ho8))
   have HO58:=zA (Kd.N_lower ho8 (below_size zB));replace HO0:=zA (Kd.V_elder' (zV HO0) (Kd.N_base ho8) hb);replace HO1_0:=zA (Kd.V_elder' (zV HO1_0) (Kd.N_base ho8) hb);replace HO1_1:=zA (Kd.V_elder' (zV HO1_1) (Kd.N_base ho8) hb);replace BK44:=zw BK44 hb;replace HB:=zu hb;clear hb ho8;refine hK.out _ _ ⟨zc0 BK44,zc1 BK44⟩ (fun hHeld=>?_);clear hK K;refine norm_ (a':=?_) ?_ ?_;rotate_left
   ·show Act.put _ (some 9) _=_
    simp only [Act.put,zi,zs,zt,i64_w,i32_w];rfl
   refine one_ (i:=0) (N:=some 5) (bz 7 27) rfl rfl zK (by decide) (fun K hK=>?_);refine Kd.N_lit_step k63 _ 63 ?hg (N':=5) ?hd (xs:=([]:List (S63))) (inner:=[]) (ok:=(fun k_=>((P0_ k_∨P1_0_ k_∨P1_1_ k_)∨w.heap.size≤k_)∧some k_≠(v50:Value).ownBlock∧k_≠gb44)) (okp:=(fun k_=>((P0_ k_∨P1_0_ k_∨P1_1_ k_)∨w.heap.size≤k_)∧some k_≠(v50:Value).ownBlock∧k_≠gb44)) ?hr ?hp (fun _ hk=>hk) ((show ∀ k_,w7.heap.size≤k_→(fun k_=>((P0_ k_∨P1_0_ k_∨P1_1_ k_)∨w.heap.size≤k_)∧some k_≠(v50:Value).ownBlock∧k_≠gb44) k_ from fun k_ hk=>⟨(.inr (Nat.le_trans (below_size zB) hk)),Kd.fresh' (Kd.N_lt (zN HO58)) k_ hk,Kd.freshB (g:=gb44) (o:=.cells #[.slice A1_0 l1_0.length c1_0,.slice A1_1 l1_1.length c1_1] 63 (0,0)) (zk BK44) k_ hk⟩) _ (Nat.le_refl _)) (Below.refl _ _) (Nat.le_refl _) (by simp) ?_;(case hd=>rfl);(case hg=>rfl);(case hr=>first|(go_simp;done)|(go_simp;rfl));(case hp=>exact (Reps.none _ _));intro v56 w9 ho10 hb hg_ hnew_;clear hg_ hnew_
   (first|rw [← Ny51.out] at ho10|(simp only [Int.reduceToNat] at ho10;rw [← Ny51.out] at ho10))
   have HO68:=zA (Kd.N_lower ho10 (below_size zB));replace HO0:=zA (Kd.V_elder' (zV HO0) (Kd.N_base ho10) hb);replace HO1_0:=zA (Kd.V_elder' (zV HO1_0) (Kd.N_base ho10) hb);replace HO1_1:=zA (Kd.V_elder' (zV HO1_1) (Kd.N_base ho10) hb);replace HO58:=zA (Kd.N_elder' (zN HO58) (Kd.N_base ho10) hb);replace BK44:=zw BK44 hb;replace HB:=zu hb;clear hb ho10;refine hK.out _ _ ⟨zc0 BK44,zc1 BK44⟩ (fun hHeld=>?_);clear hK K;refine norm_ (a':=?_) ?_ ?_;rotate_left
   ·show Act.put _ (some 5) _=_
    simp only [Act.put,zi,zs,zt,i64_w,i32_w];rfl
   refine one_ (i:=2) (N:=some 7) (bz 7 31) rfl rfl zK (by decide) (fun K hK=>?_);refine Kd.N_append_rows_step k63 (w0:=w) w.heap.size (by rfl) (.tmp 5) (.tmp 6) 22 63 (.agg #[(.slice none 0 0),(.slice none 0 0)]) 48 rfl Tryz.underlying22 info63 rfl (by decide) (by omega) v56 y51 l0 _ _ _ (fun k_=>((P0_ k_∨P1_0_ k_∨P1_1_ k_)∨w.heap.size≤k_)∧some k_≠(v50:Value).ownBlock∧k_≠gb44) (fun k_=>((fun k_=>((P0_ k_∨P1_0_ k_∨P1_1_ k_)∨w.heap.size≤k_)∧some k_≠(v50:Value).ownBlock∧k_≠gb44)) k_∧some k_≠(v56:Value).ownBlock) rfl rfl ?aO ?aR (fun _ hk=>hk) ?aF ?aB ?aS ?aL ?_;(case aR=>exact (by skip;exact Kd.V_F (Kd.V_mono (ok':=(fun k_=>((fun k_=>((P0_ k_∨P1_0_ k_∨P1_1_ k_)∨w.heap.size≤k_)∧some k_≠(v50:Value).ownBlock∧k_≠gb44)) k_∧some k_≠(v56:Value).ownBlock)) (HO0.out) (fun k_ hk=>⟨⟨hk.1.1.1,⟨hk.1.2,hk.1.1.2⟩⟩,hk.2⟩))));(case aB=>exact zB);(case aF=>exact (fun k_ hk=>⟨(.inr (Nat.le_trans (below_size zB) hk)),Kd.fresh' (Kd.N_lt (zN HO58)) k_ hk,Kd.freshB (g:=gb44) (o:=.cells #[.slice A1_0 l1_0.length c1_0,.slice A1_1 l1_1.length c1_1] 63 (0,0)) (zk BK44) k_ hk⟩));(case aO=>exact (zN HO68));(case aS=>exact (below_size zB));(case aL=>have:=LMc3.out;omega);intro v57 w11 ho hb hg hat;rw [← Ny55.out] at ho;have HO70:=zA (ho);replace HO0:=zA (Kd.V_afterv (ok:=(fun k_=>((P0_ k_∨P1_0_ k_∨P1_1_ k_)∨w.heap.size≤k_)∧some k_≠(v50:Value).ownBlock∧k_≠gb44)) (by (with_reducible repeat (first|apply Kd.V_alloc|apply Kd.V_drewN|apply Kd.V_drew));exact Kd.V_mono HO0.out (fun _ hk=>⟨⟨hk.1.1.1,⟨hk.1.2,hk.1.1.2⟩⟩,hk.2⟩)) hg hat);replace HO1_0:=zA (Kd.V_afterv (ok:=(fun k_=>((P0_ k_∨P1_0_ k_∨P1_1_ k_)∨w.heap.size≤k_)∧some k_≠(v50:Value).ownBlock∧k_≠gb44)) (by (with_reducible repeat (first|apply Kd.V_alloc|apply Kd.V_drewN|apply Kd.V_drew));exact Kd.V_mono HO1_0.out (fun _ hk=>⟨⟨hk.1.1.1,⟨hk.1.2,hk.1.1.2⟩⟩,hk.2⟩)) hg hat);replace HO1_1:=zA (Kd.V_afterv (ok:=(fun k_=>((P0_ k_∨P1_0_ k_∨P1_1_ k_)∨w.heap.size≤k_)∧some k_≠(v50:Value).ownBlock∧k_≠gb44)) (by (with_reducible repeat (first|apply Kd.V_alloc|apply Kd.V_drewN|apply Kd.V_drew));exact Kd.V_mono HO1_1.out (fun _ hk=>⟨⟨hk.1.1.1,⟨hk.1.2,hk.1.1.2⟩⟩,hk.2⟩)) hg hat);replace BK44:=zA (blk_grown (g:=gb44) (o:=.cells #[.slice A1_0 l1_0.length c1_0,.slice A1_1 l1_1.length c1_1] 63 (0,0)) (zk BK44) hg (Kd.N_away HO68.out (fun _ hk=>hk.2.2)));replace HO58:=zA (Kd.N_afterv (ok:=(fun k_=>((P0_ k_∨P1_0_ k_∨P1_1_ k_)∨w.heap.size≤k_)∧k_≠gb44)) (zN HO58) hg hat);replace HB:=zA (hb);clear HO68;clear ho hb hg hat;refine hK.out _ _ ⟨zc0 BK44,zc1 BK44⟩ (fun hHeld=>?_);clear hK K;refine norm_ (a':=?_) ?_ ?_;rotate_left
   ·show Act.put _ (some 7) _=_
    simp only [Act.put,zi,zs,zt,i64_w,i32_w];rfl
   exact norm_ (by simp only [putAll,Act.put,zi,zs,zt]) (hCont (v56,v57,v50) _ ⟨hHeld,(by (with_reducible repeat (first|apply Kd.V_alloc|apply Kd.V_drewN|apply Kd.V_drew));exact Kd.V_mono HO0.out (fun _ hk=>⟨hk.1.1,⟨hk.2,⟨hk.1.2.1,hk.1.2.2⟩⟩⟩)),(by (with_reducible repeat (first|apply Kd.V_alloc|apply Kd.V_drewN|apply Kd.V_drew));exact Kd.V_mono HO1_0.out (fun _ hk=>⟨hk.1.1,⟨hk.2,⟨hk.1.2.1,hk.1.2.2⟩⟩⟩)),(by (with_reducible repeat (first|apply Kd.V_alloc|apply Kd.V_drewN|apply Kd.V_drew));exact Kd.V_mono HO1_1.out (fun _ hk=>⟨hk.1.1,⟨hk.2,⟨hk.1.2.1,hk.1.2.2⟩⟩⟩)),(zN HO70),(by (with_reducible repeat (first|apply Kd.N_alloc|apply Kd.N_drewN|apply Kd.N_drew));exact Kd.N_mono HO58.out (fun _ hk=>⟨hk.1.1,⟨hk.2,hk.1.2⟩⟩)),(zk BK44),zB⟩)
 rintro ⟨v56,v57,v50⟩ w12 ⟨hS_,h0_,h1_,h2_,h3_,h4_,h5_,h6_⟩
 have HO70:Aside0 (Kd.N k63 63 w12 w.heap.size (fun k_=>((P0_ k_∨P1_0_ k_∨P1_1_ k_)∨w.heap.size≤k_)∧some k_≠(v50:Value).ownBlock∧k_≠gb44) v57 y55):=⟨h3_⟩
 have HO58:Aside0 (Kd.N k63 63 w12 w.heap.size (fun k_=>((P0_ k_∨P1_0_ k_∨P1_1_ k_)∨w.heap.size≤k_)∧some k_≠(v57:Value).ownBlock∧k_≠gb44) v50 y49):=⟨h4_⟩
 replace HO0:Aside0 (Kd.V k63 63 w12 w.heap.size (fun k_=>((P0_ k_∨P1_0_ k_∨P1_1_ k_)∨w.heap.size≤k_)∧some k_≠(v57:Value).ownBlock∧some k_≠(v50:Value).ownBlock∧k_≠gb44) (.slice A0 l0.length c0) l0):=⟨h0_⟩
 replace HO1_0:Aside0 (Kd.V (Kd.int .i64) 3 w12 w.heap.size (fun k_=>((P0_ k_∨P1_0_ k_∨P1_1_ k_)∨w.heap.size≤k_)∧some k_≠(v57:Value).ownBlock∧some k_≠(v50:Value).ownBlock∧k_≠gb44) (.slice A1_0 l1_0.length c1_0) l1_0):=⟨h1_⟩
 replace HO1_1:Aside0 (Kd.V (Kd.int .i64) 3 w12 w.heap.size (fun k_=>((P0_ k_∨P1_0_ k_∨P1_1_ k_)∨w.heap.size≤k_)∧some k_≠(v57:Value).ownBlock∧some k_≠(v50:Value).ownBlock∧k_≠gb44) (.slice A1_1 l1_1.length c1_1) l1_1):=⟨h2_⟩
 replace BK44:Aside0 (w12.heap[gb44]?=some (.cells #[.slice A1_0 l1_0.length c1_0,.slice A1_1 l1_1.length c1_1] 63 (0,0))):=⟨h5_⟩
 replace HB:Aside0 (Below w.heap.size w w12):=⟨h6_⟩
 clear h0_ h1_ h2_ h3_ h4_ h5_ h6_;have hHeld:w12.cell? ⟨gb44,0,none⟩=some (.slice A1_0 l1_0.length c1_0)∧w12.cell? ⟨gb44,1,none⟩=some (.slice A1_1 l1_1.length c1_1):=hS_;obtain ⟨Ao14,co14,eo14⟩:=Kd.N_slice HO58.out
 (first|subst eo14|(injection eo14 with f1_ f2_ f3_;have f4_:=f1_.symm;have f5_:=f3_.symm;clear f1_ f2_ f3_;subst f4_;subst f5_))
 refine norm_ (a':=?_) ?_ ?_;rotate_left
 ·simp only [putAll,Act.put,zi,zs,zt];rfl
 refine one_ (i:=5) (N:=some 10) (bz 7 63) rfl rfl zK (by decide) (fun K hK=>?_);refine Kd.N_append_rows_step k63 (w0:=w) w.heap.size (by rfl) (.tmp 7) (.tmp 9) 22 63 (.agg #[(.slice none 0 0),(.slice none 0 0)]) 48 rfl Tryz.underlying22 info63 rfl (by decide) (by omega) v57 y55 y49 _ _ _ (fun k_=>((P0_ k_∨P1_0_ k_∨P1_1_ k_)∨w.heap.size≤k_)∧k_≠gb44) (fun k_=>((fun k_=>((P0_ k_∨P1_0_ k_∨P1_1_ k_)∨w.heap.size≤k_)∧k_≠gb44)) k_∧some k_≠(v57:Value).ownBlock) rfl rfl ?aO ?aR (fun _ hk=>hk) ?aF ?aB ?aS ?aL ?_;(case aR=>exact (by skip;exact Kd.N_F (Kd.N_mono (ok':=(fun k_=>((fun k_=>((P0_ k_∨P1_0_ k_∨P1_1_ k_)∨w.heap.size≤k_)∧k_≠gb44)) k_∧some k_≠(v57:Value).ownBlock)) (HO58.out) (fun k_ hk=>⟨⟨hk.1,hk.2.2⟩,hk.2.1⟩))));(case aB=>exact zB);(case aF=>exact (fun k_ hk=>⟨(.inr (Nat.le_trans (below_size zB) hk)),Kd.freshB (g:=gb44) (o:=.cells #[.slice A1_0 l1_0.length c1_0,.slice A1_1 l1_1.length c1_1] 63 (0,0)) (zk BK44) k_ hk⟩));(case aO=>exact (by (with_reducible repeat (first|apply Kd.N_alloc|apply Kd.N_drewN|apply Kd.N_drew));exact Kd.N_mono HO70.out (fun _ hk=>⟨hk.1,hk.2.2⟩)));(case aS=>exact (below_size zB));(case aL=>have:=LMc4.out;omega);intro v99 w13 ho hb hg hat;rw [← Ny81.out] at ho;have HO93:=zA (ho);replace HO0:=zA (Kd.V_afterv (ok:=(fun k_=>((P0_ k_∨P1_0_ k_∨P1_1_ k_)∨w.heap.size≤k_)∧some k_≠(.slice Ao14 y49.length co14:Value).ownBlock∧k_≠gb44)) (by (with_reducible repeat (first|apply Kd.V_alloc|apply Kd.V_drewN|apply Kd.V_drew));exact Kd.V_mono HO0.out (fun _ hk=>⟨⟨hk.1,⟨hk.2.2.1,hk.2.2.2⟩⟩,hk.2.1⟩)) hg hat);replace HO1_0:=zA (Kd.V_afterv (ok:=(fun k_=>((P0_ k_∨P1_0_ k_∨P1_1_ k_)∨w.heap.size≤k_)∧some k_≠(.slice Ao14 y49.length co14:Value).ownBlock∧k_≠gb44)) (by (with_reducible repeat (first|apply Kd.V_alloc|apply Kd.V_drewN|apply Kd.V_drew));exact Kd.V_mono HO1_0.out (fun _ hk=>⟨⟨hk.1,⟨hk.2.2.1,hk.2.2.2⟩⟩,hk.2.1⟩)) hg hat);replace HO1_1:=zA (Kd.V_afterv (ok:=(fun k_=>((P0_ k_∨P1_0_ k_∨P1_1_ k_)∨w.heap.size≤k_)∧some k_≠(.slice Ao14 y49.length co14:Value).ownBlock∧k_≠gb44)) (by (with_reducible repeat (first|apply Kd.V_alloc|apply Kd.V_drewN|apply Kd.V_drew));exact Kd.V_mono HO1_1.out (fun _ hk=>⟨⟨hk.1,⟨hk.2.2.1,hk.2.2.2⟩⟩,hk.2.1⟩)) hg hat);replace BK44:=zA (blk_grown (g:=gb44) (o:=.cells #[.slice A1_0 l1_0.length c1_0,.slice A1_1 l1_1.length c1_1] 63 (0,0)) (zk BK44) hg (Kd.N_away HO70.out (fun _ hk=>hk.2.2)));replace HO58:=zA (Kd.N_afterv (ok:=(fun k_=>((P0_ k_∨P1_0_ k_∨P1_1_ k_)∨w.heap.size≤k_)∧k_≠gb44)) (by (with_reducible repeat (first|apply Kd.N_alloc|apply Kd.N_drewN|apply Kd.N_drew));exact Kd.N_mono HO58.out (fun _ hk=>⟨⟨hk.1,hk.2.2⟩,hk.2.1⟩)) hg hat);replace HB:=zA (hb);clear HO70;clear ho hb hg hat;refine hK.out _ _ ⟨zc0 BK44,zc1 BK44⟩ (fun hHeld=>?_);clear hK K;refine norm_ (a':=?_) ?_ ?_;rotate_left
 ·show Act.put _ (some 10) _=_
  simp only [Act.put,zi,zs,zt,i64_w,i32_w];rfl
 refine pure_ (i:=6) (N:=some 4) (v:=?_) (a':=?_) (bz 7 127) rfl rfl zK (fun _ _ _ h=>h) (Or.inl ⟨by rfl,?_⟩) ?_ ?_;rotate_left
 ·intro w'
  go_simp
  with_reducible rfl
 rotate_left
 ·simp only [Act.put,zi,zs,zt,i64_w,i32_w];rfl
 refine done_ zK ?_
 try go_wp2
 go_ret
 exact ⟨_,ze,by (with_reducible repeat (first|apply Kd.N_alloc|apply Kd.N_drewN|apply Kd.N_drew));exact Kd.N_mono HO93.out (fun _ hk=>hk.1),zv1 HB GE44⟩
mutual
def ancepsref41_Linked.l0:Nat→List (S63)→List (S53)→List Int→Int→Option ((List (S53))×Int)
 | 0,_,_,_,_=>none
 | k+1,x0,x5,x6,x7=>if x7<(x6.length:Int) then (ancepsref41_Linked.l1 k x0 x5 x6 x7 (wrap64 (x7+1))) else (some (x5,0))
def ancepsref41_Linked.l1:Nat→List (S63)→List (S53)→List Int→Int→Int→Option ((List (S53))×Int)
 | 0,_,_,_,_,_=>none
 | k+1,x0,x5,x6,x7,x8=>if x8<(x6.length:Int) then (if 0≤x7 then (if x7<(x6.length:Int) then (if 0≤x8 then ((some (([rd x6 x7,rd x6 x8]:List Int):List Int)).bind fun y59=>((ancepsref41_added.f x0 y59 (([0,3]:List Int))).bind fun t82=>((ancepsref41_solvable.f k t82).bind fun t60=>((ancepsref41_added.f x0 y59 (([1,2]:List Int))).bind fun t84=>((ancepsref41_solvable.f k t84).bind fun t76=>(if (t60 != t76)=true then (if x5.length<5864062014805 then (ancepsref41_Linked.l1 k x0 (x5++[(⟨rd x6 x7,rd x6 x8,t60⟩:S53)]) x6 x7 (wrap64 (x8+1))) else (none)) else (ancepsref41_Linked.l1 k x0 x5 x6 x7 (wrap64 (x8+1))))))))) else (none)) else (none)) else (none)) else (ancepsref41_Linked.l0 k x0 x5 x6 (wrap64 (x7+1)))
end
def ancepsref41_Linked.f (k:Nat) (l0:List (S63)):Option ((List (S53))×Int):=(ancepsref41_given.f k l0).bind fun t83=>(if t83=0 then ((ancepsref41_solvable.f k l0).bind fun t85=>(if t85=true then ((ancepsref41_open.f k l0).bind fun t45=>(ancepsref41_Linked.l0 k l0 ([]:List (S53)) t45 0)) else (some (([]:List (S53)),12)))) else (some (([]:List (S53)),t83)))
def ancepsref41_Linked.T14:Bool×List (List Nat×List Nat):=(true,[([],[]),([],[]),([0,1],[0,1]),([2],[2]),([],[]),([],[]),([4,5],[4,5]),([6],[6]),([3,7],[3,7]),([8,0,1,2,3,4,5,6,7,8],[8])])
def ancepsref41_Linked.B14:List Nat:=[0,0,3,7,0,0,48,112,255,511]
theorem ancepsref41_Linked.tab14:rtab .any (opsOf Tryz.f22 14)=ancepsref41_Linked.T14:=by kernel_rfl
theorem ancepsref41_Linked.bits14:waitsOk ancepsref41_Linked.T14.2 ancepsref41_Linked.B14=true:=by kernel_rfl
def ancepsref41_Linked.T18:Bool×List (List Nat×List Nat):=(true,[([],[]),([],[]),([],[]),([1,2],[1,2]),([3],[3]),([],[]),([],[]),([5,6],[5,6]),([7],[7]),([],[]),([4,8,9],[4,8,9]),([10],[10]),([0,11],[0,11]),([12,12,0,1,2,3,4,5,6,7,8,9,10,11,12],[0,12])])
def ancepsref41_Linked.B18:List Nat:=[0,0,0,6,14,0,0,96,224,0,1022,2046,4095,8191]
theorem ancepsref41_Linked.tab18:rtab .any (opsOf Tryz.f22 18)=ancepsref41_Linked.T18:=by kernel_rfl
theorem ancepsref41_Linked.bits18:waitsOk ancepsref41_Linked.T18.2 ancepsref41_Linked.B18=true:=by kernel_rfl
set_option maxHeartbeats 8000000 in
set_option maxRecDepth 100000 in
theorem ancepsref41_Linked.calls (k:Nat) (A0:Option Addr) (c0:Nat) (l0:List (S63)) (r1:List (S53)) (r2:Int) (w:World) (hr0:Kd.C k63 w A0 l0.length l0) (hc0:l0.length≤c0) (h:ancepsref41_Linked.f k l0=some (r1,r2)) :
  Calls Tryz.prog 22 #[.slice A0 l0.length c0] w fun e w'=>∃ v0_:Value,e=.returned (.tuple #[v0_,.int .i64 r2])∧Kd.R k53 53 w' w.heap.size (fun _=>True) v0_ r1∧Below w.heap.size w w':=by
 have HR0:=zA hr0;have HC0:=zA hc0;clear hr0 hc0;have HB:=zA (Below.refl w.heap.size w);have H:((ancepsref41_given.f k l0).bind fun t83=>(if t83=0 then ((ancepsref41_solvable.f k l0).bind fun t85=>(if t85=true then ((ancepsref41_open.f k l0).bind fun t45=>(ancepsref41_Linked.l0 k l0 ([]:List (S53)) t45 0)) else (some (([]:List (S53)),12)))) else (some (([]:List (S53)),t83))))=some (r1,r2):=h;clear h;obtain ⟨t83,A2,H⟩:=zo H;have HC3:=zA H;clear H
 go_enter Tryz.func22,Tryz.ntmps22
 go_upto_if 15 with (first|((with_reducible refine gate_callee (f:=39) rfl ?_);refine zgo 13 Tryz.func39 #[.slice A0 l0.length c0] ?_;(with_reducible refine (ancepsref41_given.calls k _ _ l0 t83 _ ?side1 HC0.out A2.out).mono ?_);(case side1=>repeat (first|exact HR0.out|(with_reducible refine Kd.C_alloc ?_ _)|(with_reducible refine Kd.C_drewN ?_ _)|(with_reducible refine Kd.C_drew ?_)));rintro e w4 ⟨rfl,hb⟩;refine ⟨_,rfl,?_⟩;replace HB:=zu hb;clear hb))
 (try simp only [Act.put,zi,zs,zt]);have H:=HC3.out;clear HC3
 rcases ife H with ⟨c5b0,c5b1,H⟩|⟨c5,c5b0,c5b1,H⟩
 ·(first|rw [c5b0]|(simp only [i64_w,i32_w];rw [c5b0])|skip)
  (try rw [c5b1]);obtain ⟨t85,A6,H⟩:=zo H;have HC7:=zA H;clear H
  go_upto_if 19 with (first|((with_reducible refine gate_callee (f:=40) rfl ?_);refine zgo 18 Tryz.func40 #[.slice A0 l0.length c0] ?_;(with_reducible refine (ancepsref41_solvable.calls k _ _ l0 t85 _ (zD HR0 HB) HC0.out A6.out).mono ?_);rintro e w8 ⟨rfl,hb⟩;refine ⟨_,rfl,?_⟩;replace HB:=zu hb;clear hb))
  (try simp only [Act.put,zi,zs,zt]);have H:=HC7.out;clear HC7
  by_cases c9:t85=true
  ·subst c9
   have H1:((ancepsref41_open.f k l0).bind fun t45=>(ancepsref41_Linked.l0 k l0 ([]:List (S53)) t45 0))=some (r1,r2):=by rw [if_pos rfl] at H;exact H
   clear H;have H:=H1;clear H1;obtain ⟨t45,A10,H⟩:=zo H;have H':=zA H;clear H
   go_wp2_with (first|((with_reducible refine gate_callee (f:=61) rfl ?_);refine zgo 21 Tryz.func61 #[.slice A0 l0.length c0] ?_;(with_reducible refine (ancepsref41_open.calls k _ _ l0 t45 _ (zD HR0 HB) HC0.out A10.out).mono ?_);rintro e w11 ⟨v94,rfl,ho0,hb⟩;refine ⟨_,rfl,?_⟩;have HO96:=zA (Kd.R_lower ho0 (below_size zB));replace HB:=zu hb;clear hb;(try clear ho0)))
   go_loopg [5,7] k (fun kq v5 v7 w'=>∃ (x5_1:List (S53)) (x7_1:Int),v7=.int .i64 x7_1∧Aside0 (ancepsref41_Linked.l0 kq l0 x5_1 t45 x7_1=some (r1,r2))∧Aside0 (kq≤k)∧Aside0 (Kd.R k53 53 w' w.heap.size (fun _=>True) v5 x5_1)∧Aside0 (Kd.R (Kd.int .i64) 3 w' w.heap.size (fun _=>True) v94 t45)∧Aside0 (Below w.heap.size w w'))
   case atStart=>exact ⟨(([]:List (S53))),(0),zT,H',⟨Nat.le_refl _⟩,⟨by first|exact Kd.R_nil _ _ _ _ _|exact Kd.N_nil _ _ _ _ _|exact Kd.V_nil _ _ _ _ _|exact Kd.Q_nil _ _ _ _ _|exact Kd.S_nil _ _ _ _ _⟩,⟨by refine zr ?_;exact HO96.out⟩,⟨zv0 HB⟩⟩
   case round=>
    clear H'
    try clear c5
    try clear c5b0
    try clear c5b1
    try clear c9
    obtain ⟨x5_1,x7_1,rfl,HA,HK1,HO_5,HO_6,HB⟩:=hrel
    cases gk with
    | zero=>exact absurd HA.out (by simp [ancepsref41_Linked.l0])
    | succ k1=>
     have H:=HA.out;clear HA;simp only [ancepsref41_Linked.l0] at H
     rcases ifd H with ⟨c12b0,H⟩|⟨c12b0,H⟩
     ·(first|rw [c12b0]|(simp only [i64_w,i32_w];rw [c12b0])|skip)
      have H':=zA H;clear H;obtain ⟨Ao13,co13,eo13⟩:=Kd.R_slice HO_6.out;subst eo13
      go_wp2
      go_loopg [5,8] k1 (fun kq v5 v8 w'=>∃ (x5_2:List (S53)) (x8_2:Int),v8=.int .i64 x8_2∧Aside0 (ancepsref41_Linked.l1 kq l0 x5_2 t45 x7_1 x8_2=some (r1,r2))∧Aside0 (kq≤k1)∧Aside0 (Kd.R k53 53 w' w.heap.size (fun _=>True) v5 x5_2)∧Aside0 (Kd.R (Kd.int .i64) 3 w' w.heap.size (fun _=>True) (.slice Ao13 t45.length co13) t45)∧Aside0 (Below w.heap.size w w'))
      case atStart=>exact ⟨(x5_1),(wrap64 (x7_1+1)),zT,H',⟨Nat.le_refl _⟩,⟨by refine zr ?_;exact HO_5.out⟩,⟨by refine zr ?_;exact HO_6.out⟩,⟨zv0 HB⟩⟩
      case round=>
       clear H'
       try clear c5
       try clear c5b0
       try clear c5b1
       try clear c9
       try clear c12
       try clear c12b0
       obtain ⟨x5_2,x8_2,rfl,HA,HK2,HO_5,HO_6,HB⟩:=hrel
       cases gk with
       | zero=>exact absurd HA.out (by simp [ancepsref41_Linked.l1])
       | succ k2=>
        have H:=HA.out;clear HA;simp only [ancepsref41_Linked.l1] at H
        rcases ifd H with ⟨c14b0,H⟩|⟨c14b0,H⟩
        ·obtain ⟨c15b0,H⟩:=ifd1 H;obtain ⟨c16b0,H⟩:=ifd1 H;obtain ⟨c17b0,H⟩:=ifd1 H
         first|(replace H:=zyb (([rd t45 x7_1,rd t45 x8_2]:List Int)) H;obtain ⟨y59,Ny59,H⟩:=H)|(obtain ⟨y59,hy59⟩:=zY (([rd t45 x7_1,rd t45 x8_2]:List Int));(try rw (occs:=.pos [1]) [← hy59] at H);have Ny59:=zA hy59;clear hy59)
         first|(replace H:=zyb (([0,3]:List Int)) H;obtain ⟨y67,Ny67,H⟩:=H)|(obtain ⟨y67,hy67⟩:=zY (([0,3]:List Int));(try rw (occs:=.pos [1]) [← hy67] at H);have Ny67:=zA hy67;clear hy67)
         obtain ⟨t82,A18,H⟩:=zo H;obtain ⟨t60,A19,H⟩:=zo H
         first|(replace H:=zyb (([1,2]:List Int)) H;obtain ⟨y69,Ny69,H⟩:=H)|(obtain ⟨y69,hy69⟩:=zY (([1,2]:List Int));(try rw (occs:=.pos [1]) [← hy69] at H);have Ny69:=zA hy69;clear hy69)
         obtain ⟨t84,A20,H⟩:=zo H;obtain ⟨t76,A21,H⟩:=zo H;have HC22:=zA H;clear H
         try go_wp2
         replace HO_5:=zA (Kd.R_drew HO_5.out);replace HO_6:=zA (Kd.R_drew HO_6.out);replace HB:=zA (below_drew1 HB.out);obtain ⟨p52,q52,ad52,e52,hx52_0⟩:=zp (Kd.at_int (Kd.R_reads' HO_6.out).2.2 x7_1)
         cases e52
         replace p52:=eq_true p52;replace q52:=eq_true q52;obtain ⟨p71,q71,ad71,e71,hx71_0⟩:=zp (Kd.at_int (Kd.R_reads' HO_6.out).2.2 x8_2)
         obtain rfl:ad52=ad71:=(by injection e71)
         replace p71:=eq_true p71;replace q71:=eq_true q71;refine start_ (n:=10) (S:=fun w'=>w'.cell? (ad52.add (x7_1).toNat)=some (.int .i64 (rd t45 x7_1))∧w'.cell? (ad52.add (x8_2).toNat)=some (.int .i64 (rd t45 x8_2))) (ds:=[]) (bz 10 0) zK rfl rfl ⟨hx52_0,hx71_0⟩ (fun hHeld=>?_);refine with_tabW ancepsref41_Linked.tab14 ancepsref41_Linked.bits14 (fun HT_ HW_=>?_)
         generalize wr.drew=w23 at HO_5 HO_6 HB hx52_0 hx71_0 hHeld ⊢
         refine zP 0 36 (bz 10 1) HT_ ?_;refine zP 1 37 (bz 10 3) HT_ ?_;refine zP 2 38 (bz 10 7) HT_ ?_;refine zP 4 40 (bz 10 23) HT_ ?_;refine zP 5 41 (bz 10 55) HT_ ?_;refine zP 6 42 (bz 10 119) HT_ ?_;refine zQ 3 39 (bz 10 127) HT_ HW_ hHeld ?_;refine zQ 7 43 (bz 10 255) HT_ HW_ hHeld ?_;refine one_ (i:=8) (N:=some 44) (bz 10 511) rfl rfl (one_of HT_.out zK) (by decide) (fun K hK=>?_);refine Kd.R_lit_step (Kd.int .i64) _ 3 ?hg (N:=44) ?hd (xs:=([rd t45 x7_1,rd t45 x8_2]:List Int)) (inner:=[.int .i64 (rd t45 x7_1),.int .i64 (rd t45 x8_2)]) (ok:=fun _=>True) (okp:=fun _=>True) ?hr ?hp (fun _ hk=>hk) trivial (Below.refl _ _) (Nat.le_refl _) (by simp) ?_;(case hd=>rfl);(case hg=>rfl);(case hr=>first|(go_simp;done)|(go_simp;rfl));(case hp=>exact (Reps.one (show Kd.M (Kd.int .i64) _ _ _ (rd t45 x7_1) [.int .i64 (rd t45 x7_1)] from rfl) (Reps.one (show Kd.M (Kd.int .i64) _ _ _ (rd t45 x8_2) [.int .i64 (rd t45 x8_2)] from rfl) (Reps.none _ _))));intro v729 w24 ho25 hb hg_ hnew_;have HS0_:=(hb.cell (World.block_lt_of_cell? _ _ (hHeld.1))).trans (hHeld.1);have HS1_:=(hb.cell (World.block_lt_of_cell? _ _ (hHeld.2))).trans (hHeld.2);clear hg_ hnew_
         (first|rw [← Ny59.out] at ho25|(simp only [Int.reduceToNat] at ho25;rw [← Ny59.out] at ho25))
         have HO46:=zA (Kd.R_lower (Kd.R_new' ho25 (Kd.R_lt (zR HO_6))) (below_size zB));replace HO_5:=zA (Kd.R_below (zR HO_5) hb);replace HO_6:=zA (Kd.R_elder' (zR HO_6) (Kd.R_base ho25) hb);replace HB:=zu hb;clear hb ho25;refine hK.out _ _ ⟨HS0_,HS1_⟩ (fun hHeld=>?_);clear hK K;refine norm_ (a':=?_) ?_ ?_;rotate_left
         ·show Act.put _ (some 44) _=_
          simp only [Act.put,zi,zs,zt,i64_w,i32_w];rfl
         refine zP 9 9 (bz 10 1023) HT_ ?_;refine done_ (done_of HT_.out zK) ?_
         go_upto_if 59 with (first|((with_reducible refine gate_dst (N:=47) rfl ?_);refine Kd.R_lit (Kd.int .i64) _ 3 ?hg (N:=47) ?hd (xs:=([0,3]:List Int)) (inner:=[.int .i64 0,.int .i64 3]) (ok:=fun _=>True) (okp:=fun _=>True) ?hr ?hp (fun _ hk=>hk) trivial (Below.refl _ _) (Nat.le_refl _) (by simp) ?_;(case hd=>rfl);(case hg=>rfl);(case hr=>first|(go_simp;done)|(go_simp;rfl));(case hp=>exact (Reps.one (show Kd.M (Kd.int .i64) _ _ _ 0 [.int .i64 0] from rfl) (Reps.one (show Kd.M (Kd.int .i64) _ _ _ 3 [.int .i64 3] from rfl) (Reps.none _ _))));intro v732 w26 ho27 hb hg_ hnew_;clear hg_ hnew_;(first|rw [← Ny67.out] at ho27|(simp only [Int.reduceToNat] at ho27;rw [← Ny67.out] at ho27));have HO54:=zA (Kd.R_lower (Kd.R_new' (Kd.R_new' ho27 (Kd.R_lt (zR HO_6))) (Kd.R_lt (zR HO46))) (below_size zB));replace HO_5:=zA (Kd.R_below (zR HO_5) hb);replace HO_6:=zA (Kd.R_elder' (zR HO_6) (Kd.R_base ho27) hb);replace HO46:=zA (Kd.R_elder' (zR HO46) (Kd.R_base ho27) hb);replace HB:=zu hb;clear hb ho27;obtain ⟨Ao28,co28,eo28⟩:=Kd.R_slice HO54.out;subst eo28;obtain ⟨Ao29,co29,eo29⟩:=Kd.R_slice HO46.out;subst eo29)|((with_reducible refine gate_callee (f:=62) rfl ?_);refine zgo 49 Tryz.func62 #[.slice A0 l0.length c0,.agg #[.slice Ao29 y59.length co29,.slice Ao28 y67.length co28]] ?_;(with_reducible refine (ancepsref41_added.calls (fun k_=>k_<w.heap.size) _ _ l0 (fun k_=>some k_=(.slice Ao29 y59.length co29:Value).ownBlock) _ _ y59 (fun k_=>some k_=(.slice Ao28 y67.length co28:Value).ownBlock) _ _ y67 t82 _ ?side1 ?side2 ?side3 A18.out).mono ?_);(case side1=>exact Kd.V_mk HC0.out (Kd.F_below (Kd.C_F k63_heap HR0.out) zB));(case side2=>exact Kd.R_V (Kd.R_tight rfl (Kd.R_apart' (HO46.out) (Kd.R_typed HO_5.out) (by decide))));(case side3=>exact Kd.R_V (Kd.R_tight rfl (Kd.R_apart' (HO54.out) (Kd.R_typed HO_5.out) (by decide))));rintro e w30 ⟨v735,rfl,ho0,hb⟩;refine ⟨_,rfl,?_⟩;have HO47:=zA (Kd.N_lower (Kd.N_mono (ok':=fun k_=>some k_≠(u5:Value).ownBlock∧some k_≠(.slice (some ad52) t45.length co13:Value).ownBlock) ho0 (fun k_ hk_=>⟨Or.elim hk_ (fun hs_=>Or.elim hs_ (fun hs_=>fun e_=>Nat.not_le.2 hs_ (Kd.R_base HO_5.out k_ e_.symm)) (fun hs_=>Or.elim hs_ (fun hs_=>((Kd.R_apart' (HO46.out) (Kd.R_typed HO_5.out) (by decide)).1 k_ hs_.symm).2) (fun hs_=>((Kd.R_apart' (HO54.out) (Kd.R_typed HO_5.out) (by decide)).1 k_ hs_.symm).2))) (fun hn_=>(Kd.fresh' (Kd.R_lt (zR HO_5)) k_ hn_)),Or.elim hk_ (fun hs_=>Or.elim hs_ (fun hs_=>fun e_=>Nat.not_le.2 hs_ (Kd.R_base HO_6.out k_ e_.symm)) (fun hs_=>Or.elim hs_ (fun hs_=>((Kd.R_apart' (HO46.out) (Kd.R_typed HO_5.out) (by decide)).1 k_ hs_.symm).1.1.2) (fun hs_=>((Kd.R_apart' (HO54.out) (Kd.R_typed HO_5.out) (by decide)).1 k_ hs_.symm).1.1.2))) (fun hn_=>(Kd.fresh' (Kd.R_lt (zR HO_6)) k_ hn_))⟩)) (below_size zB));replace HO_5:=zA (Kd.R_below (zR HO_5) hb);replace HO_6:=zA (Kd.R_below (zR HO_6) hb);replace HO46:=zA (Kd.R_below (zR HO46) hb);replace HO54:=zA (Kd.R_below (zR HO54) hb);replace HB:=zu hb;clear hb;(try clear ho0);obtain ⟨Ao31,co31,eo31⟩:=Kd.N_slice HO47.out;subst eo31)|((with_reducible refine gate_callee (f:=40) rfl ?_);refine zgo 50 Tryz.func40 #[.slice Ao31 t82.length co31] ?_;(with_reducible refine (ancepsref41_solvable.calls k2 _ _ t82 t60 _ ?side1 ?side2 A19.out).mono ?_);(case side1=>exact zC (Kd.N_reads' HO47.out).2.2);(case side2=>exact (Kd.N_reads' HO47.out).2.1);rintro e w32 ⟨rfl,hb⟩;refine ⟨_,rfl,?_⟩;replace HO_5:=zA (Kd.R_below (zR HO_5) hb);replace HO_6:=zA (Kd.R_below (zR HO_6) hb);replace HO46:=zA (Kd.R_below (zR HO46) hb);replace HO54:=zA (Kd.R_below (zR HO54) hb);replace HO47:=zA (Kd.N_below (zN HO47) hb);replace HB:=zu hb;clear hb)|((with_reducible refine gate_dst (N:=53) rfl ?_);refine Kd.R_lit (Kd.int .i64) _ 3 ?hg (N:=53) ?hd (xs:=([1,2]:List Int)) (inner:=[.int .i64 1,.int .i64 2]) (ok:=fun _=>True) (okp:=fun _=>True) ?hr ?hp (fun _ hk=>hk) trivial (Below.refl _ _) (Nat.le_refl _) (by simp) ?_;(case hd=>rfl);(case hg=>rfl);(case hr=>first|(go_simp;done)|(go_simp;rfl));(case hp=>exact (Reps.one (show Kd.M (Kd.int .i64) _ _ _ 1 [.int .i64 1] from rfl) (Reps.one (show Kd.M (Kd.int .i64) _ _ _ 2 [.int .i64 2] from rfl) (Reps.none _ _))));intro v739 w33 ho34 hb hg_ hnew_;clear hg_ hnew_;(first|rw [← Ny69.out] at ho34|(simp only [Int.reduceToNat] at ho34;rw [← Ny69.out] at ho34));have HO65:=zA (Kd.R_lower (Kd.R_new' (Kd.R_new' (Kd.R_new' ho34 (Kd.R_lt (zR HO_6))) (Kd.R_lt (zR HO46))) (Kd.R_lt (zR HO54))) (below_size zB));replace HO_5:=zA (Kd.R_below (zR HO_5) hb);replace HO_6:=zA (Kd.R_elder' (zR HO_6) (Kd.R_base ho34) hb);replace HO46:=zA (Kd.R_elder' (zR HO46) (Kd.R_base ho34) hb);replace HO54:=zA (Kd.R_elder' (zR HO54) (Kd.R_base ho34) hb);replace HO47:=zA (Kd.N_elder' (zN HO47) (Kd.R_base ho34) hb);replace HB:=zu hb;clear hb ho34;obtain ⟨Ao35,co35,eo35⟩:=Kd.R_slice HO65.out;subst eo35)|((with_reducible refine gate_callee (f:=62) rfl ?_);refine zgo 55 Tryz.func62 #[.slice A0 l0.length c0,.agg #[.slice Ao29 y59.length co29,.slice Ao35 y69.length co35]] ?_;(with_reducible refine (ancepsref41_added.calls (fun k_=>k_<w.heap.size) _ _ l0 (fun k_=>some k_=(.slice Ao29 y59.length co29:Value).ownBlock) _ _ y59 (fun k_=>some k_=(.slice Ao35 y69.length co35:Value).ownBlock) _ _ y69 t84 _ ?side1 ?side2 ?side3 A20.out).mono ?_);(case side1=>exact Kd.V_mk HC0.out (Kd.F_below (Kd.C_F k63_heap HR0.out) zB));(case side2=>exact Kd.R_V (Kd.R_tight rfl (Kd.R_apart' (Kd.R_apart' (HO46.out) (Kd.R_typed HO_5.out) (by decide)) (Kd.N_typed HO47.out) (by decide))));(case side3=>exact Kd.R_V (Kd.R_tight rfl (Kd.R_apart' (Kd.R_apart' (HO65.out) (Kd.R_typed HO_5.out) (by decide)) (Kd.N_typed HO47.out) (by decide))));rintro e w36 ⟨v742,rfl,ho0,hb⟩;refine ⟨_,rfl,?_⟩;have HO77:=zA (Kd.N_lower (Kd.N_mono (ok':=fun k_=>some k_≠(u5:Value).ownBlock∧some k_≠(.slice (some ad52) t45.length co13:Value).ownBlock∧some k_≠(.slice Ao28 y67.length co28:Value).ownBlock∧some k_≠(.slice Ao31 t82.length co31:Value).ownBlock) ho0 (fun k_ hk_=>⟨Or.elim hk_ (fun hs_=>Or.elim hs_ (fun hs_=>fun e_=>Nat.not_le.2 hs_ (Kd.R_base HO_5.out k_ e_.symm)) (fun hs_=>Or.elim hs_ (fun hs_=>((Kd.R_apart' (Kd.R_apart' (HO46.out) (Kd.R_typed HO_5.out) (by decide)) (Kd.N_typed HO47.out) (by decide)).1 k_ hs_.symm).1.2) (fun hs_=>((Kd.R_apart' (Kd.R_apart' (HO65.out) (Kd.R_typed HO_5.out) (by decide)) (Kd.N_typed HO47.out) (by decide)).1 k_ hs_.symm).1.2))) (fun hn_=>(Kd.fresh' (Kd.R_lt (zR HO_5)) k_ hn_)),Or.elim hk_ (fun hs_=>Or.elim hs_ (fun hs_=>fun e_=>Nat.not_le.2 hs_ (Kd.R_base HO_6.out k_ e_.symm)) (fun hs_=>Or.elim hs_ (fun hs_=>((Kd.R_apart' (Kd.R_apart' (HO46.out) (Kd.R_typed HO_5.out) (by decide)) (Kd.N_typed HO47.out) (by decide)).1 k_ hs_.symm).1.1.1.1.2) (fun hs_=>((Kd.R_apart' (Kd.R_apart' (HO65.out) (Kd.R_typed HO_5.out) (by decide)) (Kd.N_typed HO47.out) (by decide)).1 k_ hs_.symm).1.1.1.1.2))) (fun hn_=>(Kd.fresh' (Kd.R_lt (zR HO_6)) k_ hn_)),Or.elim hk_ (fun hs_=>Or.elim hs_ (fun hs_=>fun e_=>Nat.not_le.2 hs_ (Kd.R_base HO54.out k_ e_.symm)) (fun hs_=>Or.elim hs_ (fun hs_=>((Kd.R_apart' (Kd.R_apart' (HO46.out) (Kd.R_typed HO_5.out) (by decide)) (Kd.N_typed HO47.out) (by decide)).1 k_ hs_.symm).1.1.1.2) (fun hs_=>((Kd.R_apart' (Kd.R_apart' (HO65.out) (Kd.R_typed HO_5.out) (by decide)) (Kd.N_typed HO47.out) (by decide)).1 k_ hs_.symm).1.1.2))) (fun hn_=>(Kd.fresh' (Kd.R_lt (zR HO54)) k_ hn_)),Or.elim hk_ (fun hs_=>Or.elim hs_ (fun hs_=>fun e_=>Nat.not_le.2 hs_ (Kd.N_base HO47.out k_ e_.symm)) (fun hs_=>Or.elim hs_ (fun hs_=>((Kd.R_apart' (Kd.R_apart' (HO46.out) (Kd.R_typed HO_5.out) (by decide)) (Kd.N_typed HO47.out) (by decide)).1 k_ hs_.symm).2) (fun hs_=>((Kd.R_apart' (Kd.R_apart' (HO65.out) (Kd.R_typed HO_5.out) (by decide)) (Kd.N_typed HO47.out) (by decide)).1 k_ hs_.symm).2))) (fun hn_=>(Kd.fresh' (Kd.N_lt (zN HO47)) k_ hn_))⟩)) (below_size zB));replace HO_5:=zA (Kd.R_below (zR HO_5) hb);replace HO_6:=zA (Kd.R_below (zR HO_6) hb);replace HO46:=zA (Kd.R_below (zR HO46) hb);replace HO54:=zA (Kd.R_below (zR HO54) hb);replace HO47:=zA (Kd.N_elder' (zN HO47) (Kd.N_base ho0) hb);replace HO65:=zA (Kd.R_below (zR HO65) hb);replace HB:=zu hb;clear hb;(try clear ho0);obtain ⟨Ao37,co37,eo37⟩:=Kd.N_slice HO77.out;subst eo37)|((with_reducible refine gate_callee (f:=40) rfl ?_);refine zgo 56 Tryz.func40 #[.slice Ao37 t84.length co37] ?_;(with_reducible refine (ancepsref41_solvable.calls k2 _ _ t84 t76 _ ?side1 ?side2 A21.out).mono ?_);(case side1=>exact zC (Kd.N_reads' HO77.out).2.2);(case side2=>exact (Kd.N_reads' HO77.out).2.1);rintro e w38 ⟨rfl,hb⟩;refine ⟨_,rfl,?_⟩;replace HO_5:=zA (Kd.R_below (zR HO_5) hb);replace HO_6:=zA (Kd.R_below (zR HO_6) hb);replace HO46:=zA (Kd.R_below (zR HO46) hb);replace HO54:=zA (Kd.R_below (zR HO54) hb);replace HO47:=zA (Kd.N_below (zN HO47) hb);replace HO65:=zA (Kd.R_below (zR HO65) hb);replace HO77:=zA (Kd.N_below (zN HO77) hb);replace HB:=zu hb;clear hb))
         (try simp only [Act.put,zi,zs,zt]);have H:=HC22.out;clear HC22
         rcases if0 H with ⟨c39,H⟩|⟨c39,H⟩
         ·have c39b0:(t60 != t76)=true:=c39;(try (have c39b1:decide (t60=t76)=false:=by simpa using c39));(try (have c39b2:(t60 == t76)=false:=by simpa using c39));(try (have c39b3:¬ (t60=t76):=by simpa using c39));clear c39
          (first|rw [c39b0]|(simp only [i64_w,i32_w];rw [c39b0])|skip)
          (try rw [c39b1]);(try rw [c39b2]);(try rw [c39b3]);obtain ⟨c40,H⟩:=if1 H;have LMc40:=zA c40;clear c40
          first|(replace H:=zyb (x5_2++[(⟨rd t45 x7_1,rd t45 x8_2,t60⟩:S53)]) H;obtain ⟨y79,Ny79,H⟩:=H)|(obtain ⟨y79,hy79⟩:=zY (x5_2++[(⟨rd t45 x7_1,rd t45 x8_2,t60⟩:S53)]);(try rw (occs:=.pos [1]) [← hy79] at H);have Ny79:=zA hy79;clear hy79)
          have H':=zA H;clear H
          try go_wp2
          replace HO_5:=zA (Kd.R_drew HO_5.out);replace HO_6:=zA (Kd.R_drew HO_6.out);replace HO46:=zA (Kd.R_drew HO46.out);replace HO54:=zA (Kd.R_drew HO54.out);replace HO47:=zA (Kd.N_drew HO47.out);replace HO65:=zA (Kd.R_drew HO65.out);replace HO77:=zA (Kd.N_drew HO77.out);replace HB:=zA (below_drew1 HB.out);obtain ⟨p72,q72,ad72,e72,hx72_0⟩:=zp (Kd.at_int (Kd.R_reads' HO_6.out).2.2 x7_1)
          obtain rfl:ad52=ad72:=(by injection e72)
          replace p72:=eq_true p72;replace q72:=eq_true q72;obtain ⟨p73,q73,ad73,e73,hx73_0⟩:=zp (Kd.at_int (Kd.R_reads' HO_6.out).2.2 x8_2)
          obtain rfl:ad52=ad73:=(by injection e73)
          replace p73:=eq_true p73;replace q73:=eq_true q73;refine start_ (n:=14) (S:=fun w'=>w'.cell? (ad52.add (x7_1).toNat)=some (.int .i64 (rd t45 x7_1))∧w'.cell? (ad52.add (x8_2).toNat)=some (.int .i64 (rd t45 x8_2))) (ds:=[11,12]) (bz 14 0) zK rfl rfl ⟨hx72_0,hx73_0⟩ (fun hHeld=>?_);refine with_tabW ancepsref41_Linked.tab18 ancepsref41_Linked.bits18 (fun HT_ HW_=>?_)
          generalize w38.drew=w41 at HO_5 HO_6 HO46 HO54 HO47 HO65 HO77 HB hx72_0 hx73_0 hHeld ⊢
          refine zP 0 60 (bz 14 1) HT_ ?_;refine zP 1 61 (bz 14 3) HT_ ?_;refine zP 2 62 (bz 14 7) HT_ ?_;refine zP 3 63 (bz 14 15) HT_ ?_;refine zP 5 65 (bz 14 47) HT_ ?_;refine zP 6 66 (bz 14 111) HT_ ?_;refine zP 7 67 (bz 14 239) HT_ ?_;refine zP 9 69 (bz 14 751) HT_ ?_;refine zQ 4 64 (bz 14 767) HT_ HW_ hHeld ?_;refine zQ 8 68 (bz 14 1023) HT_ HW_ hHeld ?_;refine zP 10 70 (bz 14 2047) HT_ ?_;refine last_ (i:=11) (N:=some 71) (bz 14 4095) rfl rfl (one_of HT_.out zK) (by decide) (fun K hK=>?_);refine value_ (w1:=?_) (v:=?_) (by rfl) rfl ?_ ?_;rotate_left 2
          ·go_simp
           constructor
           ·rfl
           ·rfl
          refine hK.out _ _ ?_;clear hK K;refine norm_ (a':=?_) ?_ ?_;rotate_left
          ·show Act.put _ (some 71) _=_
           simp only [Act.put,zi,zs,zt,i64_w,i32_w];rfl
          refine last_ (i:=12) (N:=some 72) (bz 14 8191) rfl rfl (one_of HT_.out zK) (by decide) (fun K hK=>?_);refine Kd.R_append_step k53 (w0:=w) w.heap.size (by rfl) (.tmp 60) (.tmp 71) 48 53 (.agg #[(.int .i64 0),(.int .i64 0),(.bool false)]) 24 rfl Tryz.underlying48 info53 rfl (by decide) (by omega) u5 x5_2 (⟨rd t45 x7_1,rd t45 x8_2,t60⟩:S53) [.int .i64 (rd t45 x7_1),.int .i64 (rd t45 x8_2),.bool t60] (fun _=>True) (fun _=>False) rfl rfl ?aP (fun _ hk=>hk.elim) ?aF ?aO ?aB ?aS ?aL ?_;(case aP=>exact k53_mkM _ _ _ (⟨rd t45 x7_1,rd t45 x8_2,t60⟩:S53));(case aB=>exact zB);(case aF=>exact (fun _ _=>trivial));(case aO=>exact (zR HO_5));(case aS=>exact (below_size zB));(case aL=>have:=LMc40.out;omega);intro v748 w42 ho hb hg hat;rw [← Ny79.out] at ho;have HO97:=zA (ho);replace HO_6:=zA (Kd.R_over' (zR HO_6) (Kd.R_typed (zR HO_5)) (by decide) hg);replace HO46:=zA (Kd.R_over' (zR HO46) (Kd.R_typed (zR HO_5)) (by decide) hg);replace HO54:=zA (Kd.R_over' (zR HO54) (Kd.R_typed (zR HO_5)) (by decide) hg);replace HO47:=zA (Kd.N_afterv (ok:=(fun k_=>some k_≠(.slice (some ad52) t45.length co13:Value).ownBlock∧some k_≠(.slice Ao35 y69.length co35:Value).ownBlock∧some k_≠(.slice Ao37 t84.length co37:Value).ownBlock)) (by (with_reducible repeat (first|apply Kd.N_alloc|apply Kd.N_drewN|apply Kd.N_drew));exact Kd.N_mono HO47.out (fun _ hk=>⟨⟨hk.1.1.2,⟨hk.1.2,hk.2⟩⟩,hk.1.1.1⟩)) hg hat);replace HO65:=zA (Kd.R_over' (zR HO65) (Kd.R_typed (zR HO_5)) (by decide) hg);replace HO77:=zA (Kd.N_afterv (ok:=(fun k_=>some k_≠(.slice (some ad52) t45.length co13:Value).ownBlock∧some k_≠(.slice Ao28 y67.length co28:Value).ownBlock∧some k_≠(.slice Ao31 t82.length co31:Value).ownBlock)) (by (with_reducible repeat (first|apply Kd.N_alloc|apply Kd.N_drewN|apply Kd.N_drew));exact Kd.N_mono HO77.out (fun _ hk=>⟨⟨hk.2.1,⟨hk.2.2.1,hk.2.2.2⟩⟩,hk.1⟩)) hg hat);replace HB:=zA (hb);clear HO_5;clear ho hb hg hat;refine hK.out _ _ ?_;clear hK K;refine norm_ (a':=?_) ?_ ?_;rotate_left
          ·show Act.put _ (some 72) _=_
           simp only [Act.put,zi,zs,zt,i64_w,i32_w];rfl
          refine zP 13 5 (bz 14 16383) HT_ ?_;refine done_ (done_of HT_.out zK) ?_
          try go_wp2
          go_roundg k2
          case measure=>have:=HK1.out;have:=HK2.out;omega
          case rel=>exact ⟨(y79),(wrap64 (x8_2+1)),zT,H',⟨by have:=HK1.out;have:=HK2.out;omega⟩,⟨by refine zr ?_;exact HO97.out⟩,⟨by refine zr ?_;exact Kd.R_mono HO_6.out (fun _ hk=>trivial)⟩,⟨zv0 HB⟩⟩
         ·have c39b0:(t60 != t76)=false:=by simpa using c39
          (try (have c39b1:decide (t60=t76)=true:=by simpa using c39));(try (have c39b2:(t60 == t76)=true:=by simpa using c39));clear c39
          (first|rw [c39b0]|(simp only [i64_w,i32_w];rw [c39b0])|skip)
          (try rw [c39b1]);(try rw [c39b2]);have H':=zA H;clear H
          go_wp2
          go_roundg k2
          case measure=>have:=HK1.out;have:=HK2.out;omega
          case rel=>exact ⟨(x5_2),(wrap64 (x8_2+1)),zT,H',⟨by have:=HK1.out;have:=HK2.out;omega⟩,⟨by refine zr ?_;exact HO_5.out⟩,⟨by refine zr ?_;exact Kd.R_mono HO_6.out (fun _ hk=>trivial)⟩,⟨zv0 HB⟩⟩
        ·have H':=zA H;clear H
         go_wp2
         go_roundg k2
         case measure=>have:=HK1.out;have:=HK2.out;omega
         case rel=>exact ⟨(x5_2),(wrap64 (x7_1+1)),zT,H',⟨by have:=HK1.out;have:=HK2.out;omega⟩,⟨by refine zr ?_;exact HO_5.out⟩,⟨by refine zr ?_;exact HO_6.out⟩,⟨zv0 HB⟩⟩
     ·(first|rw [c12b0]|(simp only [i64_w,i32_w];rw [c12b0])|skip)
      simp only [Option.some.injEq,Prod.mk.injEq] at H;obtain ⟨rfl,rfl⟩:=H;obtain ⟨Ao43,co43,eo43⟩:=Kd.R_slice HO_6.out;subst eo43
      go_wp2
      go_ret2
      exact ⟨_,ze,by refine zr ?_;exact HO_5.out,zv0 HB⟩
  ·replace c9:=Bool.eq_false_iff.mpr c9;subst c9
   have H1:(some (([]:List (S53)),12))=some (r1,r2):=by rw [if_neg (show ¬ (false=true) by decide)] at H;exact H
   clear H;have H:=H1;clear H1;simp only [Option.some.injEq,Prod.mk.injEq] at H;obtain ⟨rfl,rfl⟩:=H
   go_wp2
   go_ret2
   exact ⟨_,ze,by first|exact Kd.R_nil _ _ _ _ _|exact Kd.N_nil _ _ _ _ _|exact Kd.V_nil _ _ _ _ _|exact Kd.Q_nil _ _ _ _ _|exact Kd.S_nil _ _ _ _ _,zv0 HB⟩
 ·(first|rw [c5b0]|(simp only [i64_w,i32_w];rw [c5b0])|skip)
  (try rw [c5b1]);simp only [Option.some.injEq,Prod.mk.injEq] at H;obtain ⟨rfl,rfl⟩:=H
  go_wp2
  go_ret2
  exact ⟨_,ze,by first|exact Kd.R_nil _ _ _ _ _|exact Kd.N_nil _ _ _ _ _|exact Kd.V_nil _ _ _ _ _|exact Kd.Q_nil _ _ _ _ _|exact Kd.S_nil _ _ _ _ _,zv0 HB⟩
def table_assignment.l0:Nat→Int→Int→List Int→Int→Int→Option (Int)
 | 0,_,_,_,_,_=>none
 | k+1,x1,x5,x8,x9,x10=>if x10<x9 then (if 0≤x10 then (if x10<(x8.length:Int) then (if 0≤(rd x8 x10) then (table_assignment.l0 k x1 (Go.bits .or .i64 x5 (shl .i64 (Go.bits .and .i64 (shr .i64 x1 x10) 1) (rd x8 x10))) x8 x9 (wrap64 (x10+1))) else (none)) else (none)) else (none)) else (some x5)
def table_assignment.f (k:Nat) (l0:List Int) (a1:Int):Option (Int):=table_assignment.l0 k a1 0 l0 (l0.length:Int) 0
set_option maxHeartbeats 8000000 in
set_option maxRecDepth 100000 in
theorem table_assignment.calls (k:Nat) (A0:Option Addr) (c0:Nat) (l0:List Int) (a1:Int) (r:Int) (w:World) (hr0:Kd.C (Kd.int .i64) w A0 l0.length l0) (hc0:l0.length≤c0) (h:table_assignment.f k l0 a1=some r) :
  Calls Tryz.prog 110 #[.slice A0 l0.length c0,.int .i64 a1] w fun e w'=>e=.returned (.int .i64 r)∧Drawn0 w w':=by
 have HR0:=zA hr0;have HC0:=zA hc0;clear hr0 hc0;have H:(table_assignment.l0 k a1 0 l0 (l0.length:Int) 0)=some r:=h;clear h;have H':=zA H;clear H
 go_enter Tryz.func110,Tryz.ntmps110
 go_wp2
 go_loopg [5,10] k (fun kq v5 v10 w'=>∃ (x5_1:Int) (x10_1:Int),v5=.int .i64 x5_1∧v10=.int .i64 x10_1∧Aside0 (table_assignment.l0 kq a1 x5_1 l0 (l0.length:Int) x10_1=some r)∧Aside0 (kq≤k)∧Drawn0 w w')
 case atStart=>exact ⟨(0),(0),zT,zT,H',⟨Nat.le_refl _⟩,by repeat (first|exact Drawn0.refl _|apply Drawn0.step)⟩
 case round=>
  clear H';obtain ⟨x5_1,x10_1,rfl,rfl,HA,HK1,⟨m1,rfl⟩⟩:=hrel
  cases gk with
  | zero=>exact absurd HA.out (by simp [table_assignment.l0])
  | succ k1=>
   have H:=HA.out;clear HA;simp only [table_assignment.l0] at H
   rcases ifd H with ⟨c3b0,H⟩|⟨c3b0,H⟩
   ·obtain ⟨c4b0,H⟩:=ifd1 H;obtain ⟨c5b0,H⟩:=ifd1 H;have c6b0:=eq_true (of_decide_eq_true zh:0≤x10_1);obtain ⟨ji7,hji7⟩:=zZ (shr .i64 a1 x10_1)
    first|rw [hji7] at H|simp only [hji7] at H
    have hji7_:(a1 / 2 ^ min x10_1.toNat 64)=ji7:=hji7;have hji7z:x10_1≤64→(a1 / 2 ^ x10_1.toNat)=ji7:=shr_small hji7;obtain ⟨c8,H⟩:=if1 H;have c8b0:=eq_true c8;have c8b1:decide (0≤(rd l0 x10_1))=true:=decide_eq_true c8;clear c8;obtain ⟨ji9,hji9⟩:=zZ (shl .i64 (Go.bits .and .i64 (ji7) 1) (rd l0 x10_1))
    first|rw [hji9] at H|simp only [hji9] at H
    have hji9_:(IntKind.i64.wrap ((Go.bits .and .i64 (ji7) 1) * 2 ^ min (rd l0 x10_1).toNat 64))=ji9:=hji9;have hji9z:(rd l0 x10_1)≤64→(IntKind.i64.wrap ((Go.bits .and .i64 (ji7) 1) * 2 ^ (rd l0 x10_1).toNat))=ji9:=shl_small hji9;have hji9y:(wrap64 ((Go.bits .and .i64 (ji7) 1) * 2 ^ min (rd l0 x10_1).toNat 64))=ji9:=(i64_w _).symm.trans hji9_
    have hji9x:(rd l0 x10_1)≤64→(wrap64 ((Go.bits .and .i64 (ji7) 1) * 2 ^ (rd l0 x10_1).toNat))=ji9:=fun h_=>(i64_w _).symm.trans (hji9z h_)
    have H':=zA H;clear H;obtain ⟨p80,q80,ad80,e80,hx80_0⟩:=zp (Kd.at_int HR0.out x10_1)
    cases e80
    replace p80:=eq_true p80;replace q80:=eq_true q80
    go_wp2
    go_roundg k1
    case measure=>have:=HK1.out;omega
    case rel=>exact ⟨(Go.bits .or .i64 x5_1 (ji9)),(wrap64 (x10_1+1)),(by first|rfl|(simp;done)|(simp only [← hji9] <;> (first|rfl|simp))|(simp [*];done)),zT,H',⟨by have:=HK1.out;omega⟩,by repeat (first|exact Drawn0.refl _|apply Drawn0.step)⟩
   ·obtain rfl:=Option.some.inj H
    go_wp2
    go_ret
    exact ⟨by first|rfl|(simp;done)|(simp [*];done),by repeat (first|exact Drawn0.refl _|apply Drawn0.step)⟩
def table_without_1_v1.f (a0:Int) (a1_0:Int):Option (Bool):=some (a0 == a1_0)
set_option maxHeartbeats 8000000 in
set_option maxRecDepth 100000 in
theorem table_without_1_v1.calls (a0:Int) (gp1_0:Nat) (a1_0:Int) (r:Bool) (w:World) (hb_gp1_0:w.heap[gp1_0]?=some (.cells #[.int .i64 a1_0] 3 (0,0))) (h:table_without_1_v1.f a0 a1_0=some r) :
  Calls Tryz.prog 111 #[.int .i64 a0,.pointer (some ⟨gp1_0,0,none⟩)] w fun e w'=>e=.returned (.bool r)∧Drawn0 w w':=by
 have BK89:=zA hb_gp1_0;clear hb_gp1_0;have H:(some (a0 == a1_0))=some r:=h;clear h;obtain rfl:=Option.some.inj H;have hcz3_0:w.cell? ⟨gp1_0,0,none⟩=some (.int .i64 a1_0):=zc0 BK89;have hfz3_0:=zf BK89 0
 go_enter Tryz.func111,Tryz.ntmps111
 go_wp2
 go_ret
 exact ⟨by first|rfl|(simp;done)|(simp [*];done),by repeat (first|exact Drawn0.refl _|apply Drawn0.step)⟩
section
open Go.Sort Go.Shelf
def slices_DeleteFunc_int_int_table_without_1.f (l0:List Int) (a1_0:Int):Option (List Int):=some (l0.filter fun x=>!(x == a1_0))
theorem slices_DeleteFunc_int_int_table_without_1.calls (P0_:Nat→Prop) (u87_:Value) (l0:List Int) (gp1_0:Nat) (a1_0:Int) (r:List Int) (w0 w:World) (hB:Below w0.heap.size w0 w) (ho0:Kd.R (Kd.int .i64) 3 w w0.heap.size P0_ u87_ l0) (hb_gp1_0:w.heap[gp1_0]?=some (.cells #[.int .i64 a1_0] 3 (0,0))) (hap:∀ k_,P0_ k_→k_≠gp1_0) (h:slices_DeleteFunc_int_int_table_without_1.f l0 a1_0=some r) :
 Calls Tryz.prog 56 #[u87_,.func (.func 111) #[] #[.pointer (some ⟨gp1_0,0,none⟩)]] w fun e w'=>∃ v0_:Value,e=.returned (v0_)∧Kd.R (Kd.int .i64) 3 w' w0.heap.size (fun k_=>(P0_ k_∨w.heap.size≤k_)) v0_ r∧Below w0.heap.size w0 w'∧Kept w w' (fun k_=>P0_ k_):=by
 obtain rfl:=Option.some.inj h;obtain ⟨A,c,rfl⟩:=Kd.R_slice ho0
 have hone:OneCell (Value.int .i64):=fun _=>rfl
 have hgp:gp1_0<w.heap.size:=(Array.getElem?_eq_some_iff.1 hb_gp1_0).1
 have gives:∀ (W:World) (x:Int),W.heap[gp1_0]?=some (.cells #[.int .i64 a1_0] 3 (0,0))→FnGives Tryz.prog 111 #[.pointer (some ⟨gp1_0,0,none⟩)] #[.int .i64 x] (.bool (x == a1_0)) W:=by
  intro W x hb;refine (table_without_1_v1.calls x gp1_0 a1_0 (x == a1_0) W hb rfl).mono ?_;rintro e w' ⟨rfl,hd⟩;exact ⟨rfl,hd.out⟩
 have hp:PredAt Tryz.prog 111 #[.pointer (some ⟨gp1_0,0,none⟩)] (Value.int .i64) (fun x=>x == a1_0) w:=fun W x hb=>gives W x ((hb.block _ hgp).trans hb_gp1_0)
 rcases A with _|ad
 ·have hl:l0=[]:=by
   rcases l0 with _|⟨x,xs⟩
   ·rfl
   ·have ho:=Kd.own_of_R (enc:=Value.int .i64) (h1:=fun _=>rfl) ho0
    rcases ho.2 with ⟨_,h0⟩|⟨_,_,_,h0,_⟩
    ·simp at h0
    ·simp at h0
  subst hl;refine (deleteFunc_nil laysDelete c _ w).mono ?_;rintro e w' ⟨rfl,rfl⟩;exact ⟨_,rfl,Kd.R_mono ho0 (fun k hk=>.inl hk),hB,Kept.refl _ _⟩
 ·have had:∃ g,ad=⟨g,0,none⟩:=by
   have ho:=Kd.own_of_R (enc:=Value.int .i64) (h1:=fun _=>rfl) ho0
   rcases ho.2 with ⟨h0,_⟩|⟨g,_,_,h0,_⟩
   ·simp at h0
   ·injection h0 with h0;injection h0 with h0;exact ⟨g,h0⟩
  obtain ⟨g,rfl⟩:=had;obtain ⟨h1,h2,h3,h4,h5,h6,h7⟩:=int_row ho0
  have hne:gp1_0≠g:=fun e_=>hap g h1 e_.symm
  have hpo:PredOver Tryz.prog 111 #[.pointer (some ⟨gp1_0,0,none⟩)] (Value.int .i64) (fun x=>x == a1_0) g 0 l0.toArray.size w:=by
   intro n os dk x _;refine gives _ x ?_
   show (grow (putRow (Value.int .i64) (Sort.ahead w n) g 0 dk) os).heap[gp1_0]?=_
   rw [heap_grow_old _ _ (by simpa [putRow,mapBlock,Sort.ahead] using hgp)]
   simpa [putRow,mapBlock,Sort.ahead,Array.getElem?_modify,hne.symm] using hb_gp1_0
  have key:=AnyE.slices_DeleteFunc laysDelete (Value.int .i64) hone (fun x=>x == a1_0) 111 #[.pointer (some ⟨gp1_0,0,none⟩)] (enters_of Tryz.func111 zK rfl) 0 Tryz.zeroValue3 g 0 c l0.toArray w hp hpo h7 (by unfold maxLen at h6;simp;omega) (by simpa using h5);have hle:(l0.filter fun x=>!(x == a1_0)).length≤l0.length:=List.length_filter_le _ _;rw [List.size_toArray] at key;refine key.mono ?_;rintro e w' ⟨rfl,q,rfl⟩;have hr:=int_row_put (ok':=fun k_=>(P0_ k_∨w.heap.size≤k_)) (ys:=(l0.filter fun x=>!(x == a1_0))++List.replicate (l0.length - (l0.filter fun x=>!(x == a1_0)).length) 0) ho0 q #[] (by simp;omega) hle (.inl h1);rw [List.take_left,grow_empty] at hr;have hb:=put_below hB h2 q #[] ((l0.filter fun x=>!(x == a1_0))++List.replicate (l0.length - (l0.filter fun x=>!(x == a1_0)).length) 0).toArray;have hk:=put_kept (ok:=fun k_=>P0_ k_) (w:=w) q #[] ((l0.filter fun x=>!(x == a1_0))++List.replicate (l0.length - (l0.filter fun x=>!(x == a1_0)).length) 0).toArray h1;rw [grow_empty] at hb hk;exact ⟨_,rfl,hr,hb,hk⟩
end
end Go.Proofs.YtngpkbbljnbojaaGreat.L
