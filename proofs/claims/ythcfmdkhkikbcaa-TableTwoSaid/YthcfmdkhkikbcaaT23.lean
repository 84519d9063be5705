import Derived.Test.YthcfmdkhkikbcaaT0
import Derived.Test.YthcfmdkhkikbcaaT1
import Derived.Test.YthcfmdkhkikbcaaT2
import Derived.Test.YthcfmdkhkikbcaaT4
namespace Go.Proofs.Ythcfmdkhkikbcaa.T
open Go.RowKit Go.Proofs.YthcfmdkhkikbcaaW.PrintWords Go.Proofs.YthcfmdkhkikbcaaW.PrintLast Go.Proofs.YthcfmdkhkikbcaaW.PrintMore
attribute [local go_sem] max2_int min2_int max_two min_two max_three min_three max_four min_four
set_option linter.unusedVariables false
set_option linter.unusedSimpArgs false
def table_Same.f (k:Nat) (l0_0:List Int) (l0_1:List Int) (l1_0:List Int) (l1_1:List Int):Option (Bool×Int):=(table_Valid.f k l0_0 l0_1).bind fun t762=>(if t762=0 then ((table_Valid.f k l1_0 l1_1).bind fun t763=>(if t763=0 then ((table_vital.f k l0_0 l0_1).bind fun bt764=>((table_vital.f k l1_0 l1_1).bind fun bt770=>((slices_Equal_int_int.f k bt764.1 bt770.1).bind fun t778=>(if t778=true then ((slices_Equal_int_int.f k bt764.2 bt770.2).bind fun t779=>(some (t779,0))) else (some (false,0)))))) else (some (false,t763)))) else (some (false,t762)))
theorem table_Same.mono:∀ a0 a1 a2 a3 k,LeO (table_Same.f k a0 a1 a2 a3) (table_Same.f (k+1) a0 a1 a2 a3):=by
 intro a0 a1 a2 a3 k
 unfold table_Same.f
 repeat' first
   | (with_reducible exact slices_Equal_int_int.mono _ _ _)
   | (with_reducible exact table_Valid.mono _ _ _)
   | (with_reducible exact table_vital.mono _ _ _)
   | (with_reducible exact LeO.refl _)
   | (with_reducible exact LeO.none _)
   | (with_reducible refine LeO.ite ?_ ?_)
   | (with_reducible refine LeO.bind ?_ (fun _=>?_))
   | exact LeO.none _
   | refine LeO.ite ?_ ?_
   | refine LeO.bind ?_ (fun _=>?_)
def table_Same.T7:Bool×List (List Nat×List Nat):=(true,[([],[]),([0],[0]),([],[]),([2,1],[2]),([],[]),([],[]),([4,1,3,0,1,4,5],[1,4]),([5,3,6,0,1,2,3,4,5,6],[3,5])])
def table_Same.B7:List Nat:=[0,1,0,7,0,0,63,127]
theorem table_Same.tab7:rtab .any (opsOf Try.f33 7)=table_Same.T7:=by kernel_rfl
theorem table_Same.bits7:waitsOk table_Same.T7.2 table_Same.B7=true:=by kernel_rfl
set_option maxHeartbeats 8000000 in
set_option maxRecDepth 100000 in
theorem table_Same.calls (k:Nat) (A0_0:Option Addr) (c0_0:Nat) (l0_0:List Int) (A0_1:Option Addr) (c0_1:Nat) (l0_1:List Int) (A1_0:Option Addr) (c1_0:Nat) (l1_0:List Int) (A1_1:Option Addr) (c1_1:Nat) (l1_1:List Int) (r1:Bool) (r2:Int) (w:World) (hr0_0:Kd.C (Kd.int .i64) w A0_0 l0_0.length l0_0) (hc0_0:l0_0.length≤c0_0) (hr0_1:Kd.C (Kd.int .i64) w A0_1 l0_1.length l0_1) (hc0_1:l0_1.length≤c0_1) (hr1_0:Kd.C (Kd.int .i64) w A1_0 l1_0.length l1_0) (hc1_0:l1_0.length≤c1_0) (hr1_1:Kd.C (Kd.int .i64) w A1_1 l1_1.length l1_1) (hc1_1:l1_1.length≤c1_1) (h:table_Same.f k l0_0 l0_1 l1_0 l1_1=some (r1,r2)) :
  Calls Try.prog 33 #[.agg #[.slice A0_0 l0_0.length c0_0,.slice A0_1 l0_1.length c0_1],.agg #[.slice A1_0 l1_0.length c1_0,.slice A1_1 l1_1.length c1_1]] w fun e w'=>e=.returned (.tuple #[.bool r1,.int .i64 r2])∧Below w.heap.size w w':=by
 have hu29:=Try.underlying29
 have hu27:=Try.underlying27
 have HR0_0:=zA hr0_0
 have HC0_0:=zA hc0_0
 clear hr0_0 hc0_0
 have HR0_1:=zA hr0_1
 have HC0_1:=zA hc0_1
 clear hr0_1 hc0_1
 have HR1_0:=zA hr1_0
 have HC1_0:=zA hc1_0
 clear hr1_0 hc1_0
 have HR1_1:=zA hr1_1
 have HC1_1:=zA hc1_1
 clear hr1_1 hc1_1
 have HB:=zA (Below.refl w.heap.size w)
 have H:((table_Valid.f k l0_0 l0_1).bind fun t762=>(if t762=0 then ((table_Valid.f k l1_0 l1_1).bind fun t763=>(if t763=0 then ((table_vital.f k l0_0 l0_1).bind fun bt764=>((table_vital.f k l1_0 l1_1).bind fun bt770=>((slices_Equal_int_int.f k bt764.1 bt770.1).bind fun t778=>(if t778=true then ((slices_Equal_int_int.f k bt764.2 bt770.2).bind fun t779=>(some (t779,0))) else (some (false,0)))))) else (some (false,t763)))) else (some (false,t762))))=some (r1,r2):=h
 clear h
 replace H:=Option.bind_eq_some_iff.mp H
 obtain ⟨t762,A30,H⟩:=H
 replace H:(if t762=0 then ((table_Valid.f k l1_0 l1_1).bind fun t763=>(if t763=0 then ((table_vital.f k l0_0 l0_1).bind fun bt764=>((table_vital.f k l1_0 l1_1).bind fun bt770=>((slices_Equal_int_int.f k bt764.1 bt770.1).bind fun t778=>(if t778=true then ((slices_Equal_int_int.f k bt764.2 bt770.2).bind fun t779=>(some (t779,0))) else (some (false,0)))))) else (some (false,t763)))) else (some (false,t762)))=some (r1,r2):=H
 have A3:=zA A30
 clear A30
 have HC4:=zA H
 clear H
 go_enter Try.func33,Try.ntmps33
 go_upto_if 13 with (first|((with_reducible refine gate_dst (N:=2) rfl ?_);refine box_event ?hg (N:=2) ?hd (cs:=#[.slice A0_0 l0_0.length c0_0,.slice A0_1 l0_1.length c0_1]) (t:=29) ?hr ?_;(case hd=>rfl);(case hg=>rfl);(case hr=>first|(go_simp;done)|(go_simp;rfl));intro gb760 hg w5 hbox hb;have BK760:=zA (hbox);have GW760:=zA (zG hg (below_size zB):w.heap.size≤gb760);have GE760:=GW760;replace HB:=zA (below_step zB hb);clear hb hbox hg)|((with_reducible refine gate_dst (N:=3) rfl ?_);refine box_event ?hg (N:=3) ?hd (cs:=#[.slice A1_0 l1_0.length c1_0,.slice A1_1 l1_1.length c1_1]) (t:=29) ?hr ?_;(case hd=>rfl);(case hg=>rfl);(case hr=>first|(go_simp;done)|(go_simp;rfl));intro gb761 hg w6 hbox hb;have BK761:=zA (hbox);have GW761:=zA (zG hg (below_size zB):w.heap.size≤gb761);have GE761:=GW761;have NB760_761:=zA ((zl hg (zk BK760):gb760≠gb761));have NB761_760:=zA ((zg hg (zk BK760):gb761≠gb760));replace BK760:=zA (zb BK760 hb);replace HB:=zA (below_step zB hb);clear hb hbox hg;have hnb7:=NB760_761.out;have hnc7:=NB761_760.out;have hcz8_0:w6.cell? ⟨gb760,0,none⟩=some (.slice A0_0 l0_0.length c0_0):=(blk_cell BK760.out 0).trans rfl;have hcz8_1:w6.cell? ⟨gb760,1,none⟩=some (.slice A0_1 l0_1.length c0_1):=(blk_cell BK760.out 1).trans rfl;have hfz8_0:=blk_frozen BK760.out 0;have hfz8_1:=blk_frozen BK760.out 1)|((with_reducible refine gate_callee (f:=25) rfl ?_);refine goesL_ (some 11) rfl rfl Try.func25 zK rfl #[.agg #[.slice A0_0 l0_0.length c0_0,.slice A0_1 l0_1.length c0_1]] rfl zM ?_;(with_reducible refine (table_Valid.calls k _ _ l0_0 _ _ l0_1 t762 _ ?side1 ?side2 ?side3 ?side4 A3.out).mono ?_);(case side1=>exact zC (Kd.C_below HR0_0.out HB.out));(case side2=>exact HC0_0.out);(case side3=>exact zC (Kd.C_below HR0_1.out HB.out));(case side4=>exact HC0_1.out);rintro e w9 ⟨rfl,hb⟩;refine ⟨_,rfl,?_⟩;replace BK760:=zA (zb BK760 hb);replace BK761:=zA (zb BK761 hb);replace HB:=zA (below_step zB hb);(try clear hb);(try clear hb2);(try clear hk);(try clear hi)))
 (try simp only [Act.put,zi,zs,zt])
 have H:=HC4.out
 clear HC4
 by_cases c10:t762=0
 ·rw [if_pos c10] at H
  have c10b0:(t762 == 0)=true:=beq_iff_eq.mpr c10
  have c10b1:(t762 != 0)=false:=bne_eq_false_iff_eq.mpr c10
  clear c10
  (first|rw [c10b0]|(simp only [i64_w,i32_w];rw [c10b0])|skip)
  (try rw [c10b1])
  replace H:=Option.bind_eq_some_iff.mp H
  obtain ⟨t763,A110,H⟩:=H
  replace H:(if t763=0 then ((table_vital.f k l0_0 l0_1).bind fun bt764=>((table_vital.f k l1_0 l1_1).bind fun bt770=>((slices_Equal_int_int.f k bt764.1 bt770.1).bind fun t778=>(if t778=true then ((slices_Equal_int_int.f k bt764.2 bt770.2).bind fun t779=>(some (t779,0))) else (some (false,0)))))) else (some (false,t763)))=some (r1,r2):=H
  have A11:=zA A110
  clear A110
  have HC12:=zA H
  clear H
  have hnb13:=NB761_760.out
  have hnc13:=NB760_761.out
  have hcz14_0:w9.cell? ⟨gb761,0,none⟩=some (.slice A1_0 l1_0.length c1_0):=(blk_cell BK761.out 0).trans rfl
  have hcz14_1:w9.cell? ⟨gb761,1,none⟩=some (.slice A1_1 l1_1.length c1_1):=(blk_cell BK761.out 1).trans rfl
  have hfz14_0:=blk_frozen BK761.out 0
  have hfz14_1:=blk_frozen BK761.out 1
  go_upto_if 18 with (first|((with_reducible refine gate_callee (f:=25) rfl ?_);refine goesL_ (some 16) rfl rfl Try.func25 zK rfl #[.agg #[.slice A1_0 l1_0.length c1_0,.slice A1_1 l1_1.length c1_1]] rfl zM ?_;(with_reducible refine (table_Valid.calls k _ _ l1_0 _ _ l1_1 t763 _ ?side1 ?side2 ?side3 ?side4 A11.out).mono ?_);(case side1=>exact zC (Kd.C_below HR1_0.out HB.out));(case side2=>exact HC1_0.out);(case side3=>exact zC (Kd.C_below HR1_1.out HB.out));(case side4=>exact HC1_1.out);rintro e w15 ⟨rfl,hb⟩;refine ⟨_,rfl,?_⟩;replace BK760:=zA (zb BK760 hb);replace BK761:=zA (zb BK761 hb);replace HB:=zA (below_step zB hb);(try clear hb);(try clear hb2);(try clear hk);(try clear hi)))
  (try simp only [Act.put,zi,zs,zt])
  have H:=HC12.out
  clear HC12
  by_cases c16:t763=0
  ·rw [if_pos c16] at H
   have c16b0:(t763 == 0)=true:=beq_iff_eq.mpr c16
   have c16b1:(t763 != 0)=false:=bne_eq_false_iff_eq.mpr c16
   clear c16
   (first|rw [c16b0]|(simp only [i64_w,i32_w];rw [c16b0])|skip)
   (try rw [c16b1])
   replace H:=Option.bind_eq_some_iff.mp H
   obtain ⟨⟨t764,t767⟩,A170,H⟩:=H
   replace H:((table_vital.f k l1_0 l1_1).bind fun bt770=>((slices_Equal_int_int.f k t764 bt770.1).bind fun t778=>(if t778=true then ((slices_Equal_int_int.f k t767 bt770.2).bind fun t779=>(some (t779,0))) else (some (false,0)))))=some (r1,r2):=H
   have A17:=zA A170
   clear A170
   replace H:=Option.bind_eq_some_iff.mp H
   obtain ⟨⟨t770,t773⟩,A180,H⟩:=H
   replace H:((slices_Equal_int_int.f k t764 t770).bind fun t778=>(if t778=true then ((slices_Equal_int_int.f k t767 t773).bind fun t779=>(some (t779,0))) else (some (false,0))))=some (r1,r2):=H
   have A18:=zA A180
   clear A180
   have HC19:=zA H
   clear H
   try go_wp2
   replace BK760:=zA (blk_drew BK760.out)
   replace BK761:=zA (blk_drew BK761.out)
   replace HB:=zA (below_drew1 HB.out)
   refine start_ (n:=8) (S:=fun w'=>w'.cell? ⟨gb760,0,none⟩=some (.slice A0_0 l0_0.length c0_0)∧w'.cell? ⟨gb760,1,none⟩=some (.slice A0_1 l0_1.length c0_1)∧w'.cell? ⟨gb761,0,none⟩=some (.slice A1_0 l1_0.length c1_0)∧w'.cell? ⟨gb761,1,none⟩=some (.slice A1_1 l1_1.length c1_1)) (ds:=[]) #[false,false,false,false,false,false,false,false] zK rfl rfl ⟨(blk_cell BK760.out 0).trans rfl,(blk_cell BK760.out 1).trans rfl,(blk_cell BK761.out 0).trans rfl,(blk_cell BK761.out 1).trans rfl⟩ (fun hHeld=>?_);refine with_tabW table_Same.tab7 table_Same.bits7 (fun HT_ HW_=>?_)
   generalize w15.drew=w20 at BK760 BK761 HB hHeld ⊢
   refine take_ (i:=0) (N:=some 20) (v:=?_) (a':=?_) #[true,false,false,false,false,false,false,false] rfl rfl (take_ofW HT_.out HW_.out zK) (fun _ _ _ h=>h) (Or.inl ⟨by rfl,?_⟩) hHeld ?_ ?_
   rotate_left
   ·rintro w' ⟨s0,s1,s2,s3⟩
    go_simp
    with_reducible rfl
   rotate_left
   ·simp only [Act.put,zi,zs,zt,i64_w,i32_w]
    rfl
   refine take_ (i:=2) (N:=some 22) (v:=?_) (a':=?_) #[true,false,true,false,false,false,false,false] rfl rfl (take_ofW HT_.out HW_.out zK) (fun _ _ _ h=>h) (Or.inl ⟨by rfl,?_⟩) hHeld ?_ ?_
   rotate_left
   ·rintro w' ⟨s0,s1,s2,s3⟩
    go_simp
    with_reducible rfl
   rotate_left
   ·simp only [Act.put,zi,zs,zt,i64_w,i32_w]
    rfl
   refine join_ (σ:=Value×Value×Value×Value×Nat×Nat) 2 #[true,true,true,true,true,true,false,false] (fun s_=>[(21,.agg #[s_.1,s_.2.1]),(23,.agg #[s_.2.2.1,s_.2.2.2.1]),(8,.pointer (some ⟨s_.2.2.2.2.1,0,none⟩)),(9,.pointer (some ⟨s_.2.2.2.2.2,0,none⟩))]) (fun s_ w'=>(w'.cell? ⟨gb760,0,none⟩=some (.slice A0_0 l0_0.length c0_0)∧w'.cell? ⟨gb760,1,none⟩=some (.slice A0_1 l0_1.length c0_1)∧w'.cell? ⟨gb761,0,none⟩=some (.slice A1_0 l1_0.length c1_0)∧w'.cell? ⟨gb761,1,none⟩=some (.slice A1_1 l1_1.length c1_1))∧(Kd.R (Kd.int .i64) 3 w' w.heap.size (fun k_=>some k_≠(s_.2.1:Value).ownBlock∧some k_≠(s_.2.2.1:Value).ownBlock∧some k_≠(s_.2.2.2.1:Value).ownBlock) s_.1 t764)∧(Kd.R (Kd.int .i64) 3 w' w.heap.size (fun k_=>some k_≠(s_.1:Value).ownBlock∧some k_≠(s_.2.2.1:Value).ownBlock∧some k_≠(s_.2.2.2.1:Value).ownBlock) s_.2.1 t767)∧(Kd.R (Kd.int .i64) 3 w' w.heap.size (fun k_=>some k_≠(s_.1:Value).ownBlock∧some k_≠(s_.2.1:Value).ownBlock∧some k_≠(s_.2.2.2.1:Value).ownBlock) s_.2.2.1 t770)∧(Kd.R (Kd.int .i64) 3 w' w.heap.size (fun k_=>some k_≠(s_.1:Value).ownBlock∧some k_≠(s_.2.1:Value).ownBlock∧some k_≠(s_.2.2.1:Value).ownBlock) s_.2.2.2.1 t773)∧(w'.heap[gb760]?=some (.cells #[.slice A0_0 l0_0.length c0_0,.slice A0_1 l0_1.length c0_1] 29 (0,0)))∧(w'.heap[gb761]?=some (.cells #[.slice A1_0 l1_0.length c1_0,.slice A1_1 l1_1.length c1_1] 29 (0,0)))∧(w'.heap[s_.2.2.2.2.1]?=some (.cells #[.slice none 0 0,.slice none 0 0] 29 (0,0)))∧(w'.heap[s_.2.2.2.2.2]?=some (.cells #[.slice none 0 0,.slice none 0 0] 29 (0,0)))∧(w.heap.size≤s_.2.2.2.2.1)∧(w.heap.size≤s_.2.2.2.2.1)∧(gb760≠s_.2.2.2.2.1)∧(s_.2.2.2.2.1≠gb760)∧(gb761≠s_.2.2.2.2.1)∧(s_.2.2.2.2.1≠gb761)∧(s_.2.2.2.2.2≠s_.2.2.2.2.1)∧(s_.2.2.2.2.1≠s_.2.2.2.2.2)∧(w.heap.size≤s_.2.2.2.2.2)∧(w.heap.size≤s_.2.2.2.2.2)∧(gb760≠s_.2.2.2.2.2)∧(s_.2.2.2.2.2≠gb760)∧(gb761≠s_.2.2.2.2.2)∧(s_.2.2.2.2.2≠gb761)∧(Below w.heap.size w w')) ?_ ?_
   rotate_left
   ·intro hJ1_3_4_5
    refine join_ (σ:=Value×Value×Value×Value×Nat) 3 #[true,true,true,true,true,false,false,false] (fun s_=>[(21,.agg #[s_.1,s_.2.1]),(23,.agg #[s_.2.2.1,s_.2.2.2.1]),(8,.pointer (some ⟨s_.2.2.2.2,0,none⟩))]) (fun s_ w'=>(w'.cell? ⟨gb760,0,none⟩=some (.slice A0_0 l0_0.length c0_0)∧w'.cell? ⟨gb760,1,none⟩=some (.slice A0_1 l0_1.length c0_1)∧w'.cell? ⟨gb761,0,none⟩=some (.slice A1_0 l1_0.length c1_0)∧w'.cell? ⟨gb761,1,none⟩=some (.slice A1_1 l1_1.length c1_1))∧(Kd.R (Kd.int .i64) 3 w' w.heap.size (fun k_=>some k_≠(s_.2.1:Value).ownBlock∧some k_≠(s_.2.2.1:Value).ownBlock∧some k_≠(s_.2.2.2.1:Value).ownBlock) s_.1 t764)∧(Kd.R (Kd.int .i64) 3 w' w.heap.size (fun k_=>some k_≠(s_.1:Value).ownBlock∧some k_≠(s_.2.2.1:Value).ownBlock∧some k_≠(s_.2.2.2.1:Value).ownBlock) s_.2.1 t767)∧(Kd.R (Kd.int .i64) 3 w' w.heap.size (fun k_=>some k_≠(s_.1:Value).ownBlock∧some k_≠(s_.2.1:Value).ownBlock∧some k_≠(s_.2.2.2.1:Value).ownBlock) s_.2.2.1 t770)∧(Kd.R (Kd.int .i64) 3 w' w.heap.size (fun k_=>some k_≠(s_.1:Value).ownBlock∧some k_≠(s_.2.1:Value).ownBlock∧some k_≠(s_.2.2.1:Value).ownBlock) s_.2.2.2.1 t773)∧(w'.heap[gb760]?=some (.cells #[.slice A0_0 l0_0.length c0_0,.slice A0_1 l0_1.length c0_1] 29 (0,0)))∧(w'.heap[gb761]?=some (.cells #[.slice A1_0 l1_0.length c1_0,.slice A1_1 l1_1.length c1_1] 29 (0,0)))∧(w'.heap[s_.2.2.2.2]?=some (.cells #[.slice none 0 0,.slice none 0 0] 29 (0,0)))∧(w.heap.size≤s_.2.2.2.2)∧(w.heap.size≤s_.2.2.2.2)∧(gb760≠s_.2.2.2.2)∧(s_.2.2.2.2≠gb760)∧(gb761≠s_.2.2.2.2)∧(s_.2.2.2.2≠gb761)∧(Below w.heap.size w w')) ?_ ?_
    rotate_left
    ·intro hJ1_3_4
     refine join_ (σ:=Value×Value×Value×Value×Nat) 3 #[true,true,true,true,false,true,false,false] (fun s_=>[(21,.agg #[s_.1,s_.2.1]),(23,.agg #[s_.2.2.1,s_.2.2.2.1]),(9,.pointer (some ⟨s_.2.2.2.2,0,none⟩))]) (fun s_ w'=>(w'.cell? ⟨gb760,0,none⟩=some (.slice A0_0 l0_0.length c0_0)∧w'.cell? ⟨gb760,1,none⟩=some (.slice A0_1 l0_1.length c0_1)∧w'.cell? ⟨gb761,0,none⟩=some (.slice A1_0 l1_0.length c1_0)∧w'.cell? ⟨gb761,1,none⟩=some (.slice A1_1 l1_1.length c1_1))∧(Kd.R (Kd.int .i64) 3 w' w.heap.size (fun k_=>some k_≠(s_.2.1:Value).ownBlock∧some k_≠(s_.2.2.1:Value).ownBlock∧some k_≠(s_.2.2.2.1:Value).ownBlock) s_.1 t764)∧(Kd.R (Kd.int .i64) 3 w' w.heap.size (fun k_=>some k_≠(s_.1:Value).ownBlock∧some k_≠(s_.2.2.1:Value).ownBlock∧some k_≠(s_.2.2.2.1:Value).ownBlock) s_.2.1 t767)∧(Kd.R (Kd.int .i64) 3 w' w.heap.size (fun k_=>some k_≠(s_.1:Value).ownBlock∧some k_≠(s_.2.1:Value).ownBlock∧some k_≠(s_.2.2.2.1:Value).ownBlock) s_.2.2.1 t770)∧(Kd.R (Kd.int .i64) 3 w' w.heap.size (fun k_=>some k_≠(s_.1:Value).ownBlock∧some k_≠(s_.2.1:Value).ownBlock∧some k_≠(s_.2.2.1:Value).ownBlock) s_.2.2.2.1 t773)∧(w'.heap[gb760]?=some (.cells #[.slice A0_0 l0_0.length c0_0,.slice A0_1 l0_1.length c0_1] 29 (0,0)))∧(w'.heap[gb761]?=some (.cells #[.slice A1_0 l1_0.length c1_0,.slice A1_1 l1_1.length c1_1] 29 (0,0)))∧(w'.heap[s_.2.2.2.2]?=some (.cells #[.slice none 0 0,.slice none 0 0] 29 (0,0)))∧(w.heap.size≤s_.2.2.2.2)∧(w.heap.size≤s_.2.2.2.2)∧(gb760≠s_.2.2.2.2)∧(s_.2.2.2.2≠gb760)∧(gb761≠s_.2.2.2.2)∧(s_.2.2.2.2≠gb761)∧(Below w.heap.size w w')) ?_ ?_
     rotate_left
     ·intro hJ1_3_5
      refine join_ (σ:=Value×Value×Nat×Nat) 3 #[true,true,true,false,true,true,false,false] (fun s_=>[(21,.agg #[s_.1,s_.2.1]),(8,.pointer (some ⟨s_.2.2.1,0,none⟩)),(9,.pointer (some ⟨s_.2.2.2,0,none⟩))]) (fun s_ w'=>(w'.cell? ⟨gb760,0,none⟩=some (.slice A0_0 l0_0.length c0_0)∧w'.cell? ⟨gb760,1,none⟩=some (.slice A0_1 l0_1.length c0_1)∧w'.cell? ⟨gb761,0,none⟩=some (.slice A1_0 l1_0.length c1_0)∧w'.cell? ⟨gb761,1,none⟩=some (.slice A1_1 l1_1.length c1_1))∧(Kd.R (Kd.int .i64) 3 w' w.heap.size (fun k_=>some k_≠(s_.2.1:Value).ownBlock) s_.1 t764)∧(Kd.R (Kd.int .i64) 3 w' w.heap.size (fun k_=>some k_≠(s_.1:Value).ownBlock) s_.2.1 t767)∧(w'.heap[gb760]?=some (.cells #[.slice A0_0 l0_0.length c0_0,.slice A0_1 l0_1.length c0_1] 29 (0,0)))∧(w'.heap[gb761]?=some (.cells #[.slice A1_0 l1_0.length c1_0,.slice A1_1 l1_1.length c1_1] 29 (0,0)))∧(w'.heap[s_.2.2.1]?=some (.cells #[.slice none 0 0,.slice none 0 0] 29 (0,0)))∧(w'.heap[s_.2.2.2]?=some (.cells #[.slice none 0 0,.slice none 0 0] 29 (0,0)))∧(w.heap.size≤s_.2.2.1)∧(w.heap.size≤s_.2.2.1)∧(gb760≠s_.2.2.1)∧(s_.2.2.1≠gb760)∧(gb761≠s_.2.2.1)∧(s_.2.2.1≠gb761)∧(s_.2.2.2≠s_.2.2.1)∧(s_.2.2.1≠s_.2.2.2)∧(w.heap.size≤s_.2.2.2)∧(w.heap.size≤s_.2.2.2)∧(gb760≠s_.2.2.2)∧(s_.2.2.2≠gb760)∧(gb761≠s_.2.2.2)∧(s_.2.2.2≠gb761)∧(Below w.heap.size w w')) ?_ ?_
      rotate_left
      ·intro hJ1_4_5
       refine join_ (σ:=Value×Value×Value×Value) 4 #[true,true,true,true,false,false,false,false] (fun s_=>[(21,.agg #[s_.1,s_.2.1]),(23,.agg #[s_.2.2.1,s_.2.2.2])]) (fun s_ w'=>(w'.cell? ⟨gb760,0,none⟩=some (.slice A0_0 l0_0.length c0_0)∧w'.cell? ⟨gb760,1,none⟩=some (.slice A0_1 l0_1.length c0_1)∧w'.cell? ⟨gb761,0,none⟩=some (.slice A1_0 l1_0.length c1_0)∧w'.cell? ⟨gb761,1,none⟩=some (.slice A1_1 l1_1.length c1_1))∧(Kd.R (Kd.int .i64) 3 w' w.heap.size (fun k_=>some k_≠(s_.2.1:Value).ownBlock∧some k_≠(s_.2.2.1:Value).ownBlock∧some k_≠(s_.2.2.2:Value).ownBlock) s_.1 t764)∧(Kd.R (Kd.int .i64) 3 w' w.heap.size (fun k_=>some k_≠(s_.1:Value).ownBlock∧some k_≠(s_.2.2.1:Value).ownBlock∧some k_≠(s_.2.2.2:Value).ownBlock) s_.2.1 t767)∧(Kd.R (Kd.int .i64) 3 w' w.heap.size (fun k_=>some k_≠(s_.1:Value).ownBlock∧some k_≠(s_.2.1:Value).ownBlock∧some k_≠(s_.2.2.2:Value).ownBlock) s_.2.2.1 t770)∧(Kd.R (Kd.int .i64) 3 w' w.heap.size (fun k_=>some k_≠(s_.1:Value).ownBlock∧some k_≠(s_.2.1:Value).ownBlock∧some k_≠(s_.2.2.1:Value).ownBlock) s_.2.2.2 t773)∧(w'.heap[gb760]?=some (.cells #[.slice A0_0 l0_0.length c0_0,.slice A0_1 l0_1.length c0_1] 29 (0,0)))∧(w'.heap[gb761]?=some (.cells #[.slice A1_0 l1_0.length c1_0,.slice A1_1 l1_1.length c1_1] 29 (0,0)))∧(Below w.heap.size w w')) ?_ ?_
       rotate_left
       ·intro hJ1_3
        refine join_ (σ:=Value×Value×Nat) 4 #[true,true,true,false,true,false,false,false] (fun s_=>[(21,.agg #[s_.1,s_.2.1]),(8,.pointer (some ⟨s_.2.2,0,none⟩))]) (fun s_ w'=>(w'.cell? ⟨gb760,0,none⟩=some (.slice A0_0 l0_0.length c0_0)∧w'.cell? ⟨gb760,1,none⟩=some (.slice A0_1 l0_1.length c0_1)∧w'.cell? ⟨gb761,0,none⟩=some (.slice A1_0 l1_0.length c1_0)∧w'.cell? ⟨gb761,1,none⟩=some (.slice A1_1 l1_1.length c1_1))∧(Kd.R (Kd.int .i64) 3 w' w.heap.size (fun k_=>some k_≠(s_.2.1:Value).ownBlock) s_.1 t764)∧(Kd.R (Kd.int .i64) 3 w' w.heap.size (fun k_=>some k_≠(s_.1:Value).ownBlock) s_.2.1 t767)∧(w'.heap[gb760]?=some (.cells #[.slice A0_0 l0_0.length c0_0,.slice A0_1 l0_1.length c0_1] 29 (0,0)))∧(w'.heap[gb761]?=some (.cells #[.slice A1_0 l1_0.length c1_0,.slice A1_1 l1_1.length c1_1] 29 (0,0)))∧(w'.heap[s_.2.2]?=some (.cells #[.slice none 0 0,.slice none 0 0] 29 (0,0)))∧(w.heap.size≤s_.2.2)∧(w.heap.size≤s_.2.2)∧(gb760≠s_.2.2)∧(s_.2.2≠gb760)∧(gb761≠s_.2.2)∧(s_.2.2≠gb761)∧(Below w.heap.size w w')) ?_ ?_
        rotate_left
        ·intro hJ1_4
         refine join_ (σ:=Value×Value×Nat) 4 #[true,true,true,false,false,true,false,false] (fun s_=>[(21,.agg #[s_.1,s_.2.1]),(9,.pointer (some ⟨s_.2.2,0,none⟩))]) (fun s_ w'=>(w'.cell? ⟨gb760,0,none⟩=some (.slice A0_0 l0_0.length c0_0)∧w'.cell? ⟨gb760,1,none⟩=some (.slice A0_1 l0_1.length c0_1)∧w'.cell? ⟨gb761,0,none⟩=some (.slice A1_0 l1_0.length c1_0)∧w'.cell? ⟨gb761,1,none⟩=some (.slice A1_1 l1_1.length c1_1))∧(Kd.R (Kd.int .i64) 3 w' w.heap.size (fun k_=>some k_≠(s_.2.1:Value).ownBlock) s_.1 t764)∧(Kd.R (Kd.int .i64) 3 w' w.heap.size (fun k_=>some k_≠(s_.1:Value).ownBlock) s_.2.1 t767)∧(w'.heap[gb760]?=some (.cells #[.slice A0_0 l0_0.length c0_0,.slice A0_1 l0_1.length c0_1] 29 (0,0)))∧(w'.heap[gb761]?=some (.cells #[.slice A1_0 l1_0.length c1_0,.slice A1_1 l1_1.length c1_1] 29 (0,0)))∧(w'.heap[s_.2.2]?=some (.cells #[.slice none 0 0,.slice none 0 0] 29 (0,0)))∧(w.heap.size≤s_.2.2)∧(w.heap.size≤s_.2.2)∧(gb760≠s_.2.2)∧(s_.2.2≠gb760)∧(gb761≠s_.2.2)∧(s_.2.2≠gb761)∧(Below w.heap.size w w')) ?_ ?_
         rotate_left
         ·intro hJ1_5
          refine join_ (σ:=Nat×Nat) 4 #[true,false,true,false,true,true,false,false] (fun s_=>[(8,.pointer (some ⟨s_.1,0,none⟩)),(9,.pointer (some ⟨s_.2,0,none⟩))]) (fun s_ w'=>(w'.cell? ⟨gb760,0,none⟩=some (.slice A0_0 l0_0.length c0_0)∧w'.cell? ⟨gb760,1,none⟩=some (.slice A0_1 l0_1.length c0_1)∧w'.cell? ⟨gb761,0,none⟩=some (.slice A1_0 l1_0.length c1_0)∧w'.cell? ⟨gb761,1,none⟩=some (.slice A1_1 l1_1.length c1_1))∧(w'.heap[gb760]?=some (.cells #[.slice A0_0 l0_0.length c0_0,.slice A0_1 l0_1.length c0_1] 29 (0,0)))∧(w'.heap[gb761]?=some (.cells #[.slice A1_0 l1_0.length c1_0,.slice A1_1 l1_1.length c1_1] 29 (0,0)))∧(w'.heap[s_.1]?=some (.cells #[.slice none 0 0,.slice none 0 0] 29 (0,0)))∧(w'.heap[s_.2]?=some (.cells #[.slice none 0 0,.slice none 0 0] 29 (0,0)))∧(w.heap.size≤s_.1)∧(w.heap.size≤s_.1)∧(gb760≠s_.1)∧(s_.1≠gb760)∧(gb761≠s_.1)∧(s_.1≠gb761)∧(s_.2≠s_.1)∧(s_.1≠s_.2)∧(w.heap.size≤s_.2)∧(w.heap.size≤s_.2)∧(gb760≠s_.2)∧(s_.2≠gb760)∧(gb761≠s_.2)∧(s_.2≠gb761)∧(Below w.heap.size w w')) ?_ ?_
          rotate_left
          ·intro hJ4_5
           refine join_ (σ:=Value×Value) 5 #[true,true,true,false,false,false,false,false] (fun s_=>[(21,.agg #[s_.1,s_.2])]) (fun s_ w'=>(w'.cell? ⟨gb760,0,none⟩=some (.slice A0_0 l0_0.length c0_0)∧w'.cell? ⟨gb760,1,none⟩=some (.slice A0_1 l0_1.length c0_1)∧w'.cell? ⟨gb761,0,none⟩=some (.slice A1_0 l1_0.length c1_0)∧w'.cell? ⟨gb761,1,none⟩=some (.slice A1_1 l1_1.length c1_1))∧(Kd.R (Kd.int .i64) 3 w' w.heap.size (fun k_=>some k_≠(s_.2:Value).ownBlock) s_.1 t764)∧(Kd.R (Kd.int .i64) 3 w' w.heap.size (fun k_=>some k_≠(s_.1:Value).ownBlock) s_.2 t767)∧(w'.heap[gb760]?=some (.cells #[.slice A0_0 l0_0.length c0_0,.slice A0_1 l0_1.length c0_1] 29 (0,0)))∧(w'.heap[gb761]?=some (.cells #[.slice A1_0 l1_0.length c1_0,.slice A1_1 l1_1.length c1_1] 29 (0,0)))∧(Below w.heap.size w w')) ?_ ?_
           rotate_left
           ·intro hJ1
            refine join_ (σ:=Nat) 5 #[true,false,true,false,true,false,false,false] (fun s_=>[(8,.pointer (some ⟨s_,0,none⟩))]) (fun s_ w'=>(w'.cell? ⟨gb760,0,none⟩=some (.slice A0_0 l0_0.length c0_0)∧w'.cell? ⟨gb760,1,none⟩=some (.slice A0_1 l0_1.length c0_1)∧w'.cell? ⟨gb761,0,none⟩=some (.slice A1_0 l1_0.length c1_0)∧w'.cell? ⟨gb761,1,none⟩=some (.slice A1_1 l1_1.length c1_1))∧(w'.heap[gb760]?=some (.cells #[.slice A0_0 l0_0.length c0_0,.slice A0_1 l0_1.length c0_1] 29 (0,0)))∧(w'.heap[gb761]?=some (.cells #[.slice A1_0 l1_0.length c1_0,.slice A1_1 l1_1.length c1_1] 29 (0,0)))∧(w'.heap[s_]?=some (.cells #[.slice none 0 0,.slice none 0 0] 29 (0,0)))∧(w.heap.size≤s_)∧(w.heap.size≤s_)∧(gb760≠s_)∧(s_≠gb760)∧(gb761≠s_)∧(s_≠gb761)∧(Below w.heap.size w w')) ?_ ?_
            rotate_left
            ·intro hJ4
             refine join_ (σ:=Nat) 5 #[true,false,true,false,false,true,false,false] (fun s_=>[(9,.pointer (some ⟨s_,0,none⟩))]) (fun s_ w'=>(w'.cell? ⟨gb760,0,none⟩=some (.slice A0_0 l0_0.length c0_0)∧w'.cell? ⟨gb760,1,none⟩=some (.slice A0_1 l0_1.length c0_1)∧w'.cell? ⟨gb761,0,none⟩=some (.slice A1_0 l1_0.length c1_0)∧w'.cell? ⟨gb761,1,none⟩=some (.slice A1_1 l1_1.length c1_1))∧(w'.heap[gb760]?=some (.cells #[.slice A0_0 l0_0.length c0_0,.slice A0_1 l0_1.length c0_1] 29 (0,0)))∧(w'.heap[gb761]?=some (.cells #[.slice A1_0 l1_0.length c1_0,.slice A1_1 l1_1.length c1_1] 29 (0,0)))∧(w'.heap[s_]?=some (.cells #[.slice none 0 0,.slice none 0 0] 29 (0,0)))∧(w.heap.size≤s_)∧(w.heap.size≤s_)∧(gb760≠s_)∧(s_≠gb760)∧(gb761≠s_)∧(s_≠gb761)∧(Below w.heap.size w w')) ?_ ?_
             rotate_left
             ·intro hJ5
              refine three_ (i:=1) (j:=4) (k:=5) (Ni:=some 21) (Nj:=some 8) (Nk:=some 9) #[true,true,true,false,false,false,false,false] #[true,false,true,false,true,false,false,false] #[true,false,true,false,false,true,false,false] rfl rfl rfl rfl rfl rfl (three_of HT_.out zK) (by decide) (by decide) (by decide) (fun K hK=>?_) (fun K hK=>?_) (fun K hK=>?_)
              ·skip
               refine goes_ Try.func51 zK rfl #[.agg #[.slice A0_0 l0_0.length c0_0,.slice A0_1 l0_1.length c0_1]] (by rfl) rfl rfl zM ?_
               with_reducible refine (table_vital.calls k _ _ l0_0 _ _ l0_1 t764 t767 _ ?side1 ?side2 ?side3 ?side4 A17.out).mono ?_
               (case side1=>exact zC (Kd.C_below HR0_0.out HB.out))
               (case side2=>exact HC0_0.out)
               (case side3=>exact zC (Kd.C_below HR0_1.out HB.out))
               (case side4=>exact HC0_1.out)
               rintro e w21 ⟨v765,v768,rfl,ho0,ho1,hb⟩
               refine ⟨_,rfl,?_⟩
               have HO766:=zA (Kd.R_lower ho0 (below_size zB))
               have HO769:=zA (Kd.R_lower ho1 (below_size zB))
               replace BK760:=zA (zb BK760 hb)
               replace BK761:=zA (zb BK761 hb)
               replace HB:=zA (below_step zB hb)
               (try clear hb)
               (try clear hb2)
               (try clear hk)
               (try clear hi)
               (try clear ho0)
               (try clear ho1)
               refine hK.out _ _ ⟨(blk_cell BK760.out 0).trans rfl,(blk_cell BK760.out 1).trans rfl,(blk_cell BK761.out 0).trans rfl,(blk_cell BK761.out 1).trans rfl⟩ (fun hHeld=>?_)
               clear hK K
               refine norm_ (a':=?_) ?_ ?_
               rotate_left
               ·show Act.put _ (some 21) _=_
                simp only [Act.put,zi,zs,zt,i64_w,i32_w]
                rfl
               exact norm_ (by first|(simp only [putAll,Act.put,zi,zs,zt];done)|(simp only [putAll,Act.put,zi,zs,zt];rfl)) (hJ1 (v765,v768) _ ⟨hHeld,(zR HO766),(zR HO769),(zk BK760),(zk BK761),zB⟩)
              ·skip
               refine box_step ?hg (N:=8) ?hd (cs:=#[.slice none 0 0,.slice none 0 0]) (t:=29) ?hr ?_;(case hd=>rfl);(case hg=>rfl);(case hr=>first|(go_simp;done)|(go_simp;rfl))
               intro gb776 hg w21 hbox hb
               have BK776:=zA (hbox)
               have GW776:=zA ((zG hg (below_size zB):w.heap.size≤gb776))
               have GE776:=zA ((zG hg (below_size zB):w.heap.size≤gb776))
               have NB760_776:=zA ((zl hg (zk BK760):gb760≠gb776))
               have NB776_760:=zA ((zg hg (zk BK760):gb776≠gb760))
               have NB761_776:=zA ((zl hg (zk BK761):gb761≠gb776))
               have NB776_761:=zA ((zg hg (zk BK761):gb776≠gb761))
               replace BK760:=zA (zb BK760 hb)
               replace BK761:=zA (zb BK761 hb)
               replace HB:=zA (below_step zB hb)
               clear hb hbox hg
               refine hK.out _ _ ⟨(blk_cell BK760.out 0).trans rfl,(blk_cell BK760.out 1).trans rfl,(blk_cell BK761.out 0).trans rfl,(blk_cell BK761.out 1).trans rfl⟩ (fun hHeld=>?_)
               clear hK K
               refine norm_ (a':=?_) ?_ ?_
               rotate_left
               ·show Act.put _ (some 8) _=_
                simp only [Act.put,zi,zs,zt,i64_w,i32_w]
                rfl
               exact norm_ (by first|(simp only [putAll,Act.put,zi,zs,zt];done)|(simp only [putAll,Act.put,zi,zs,zt];rfl)) (hJ4 (gb776) _ ⟨hHeld,(zk BK760),(zk BK761),(zk BK776),GW776.out,GE776.out,NB760_776.out,NB776_760.out,NB761_776.out,NB776_761.out,zB⟩)
              ·skip
               refine box_step ?hg (N:=9) ?hd (cs:=#[.slice none 0 0,.slice none 0 0]) (t:=29) ?hr ?_;(case hd=>rfl);(case hg=>rfl);(case hr=>first|(go_simp;done)|(go_simp;rfl))
               intro gb777 hg w21 hbox hb
               have BK777:=zA (hbox)
               have GW777:=zA ((zG hg (below_size zB):w.heap.size≤gb777))
               have GE777:=zA ((zG hg (below_size zB):w.heap.size≤gb777))
               have NB760_777:=zA ((zl hg (zk BK760):gb760≠gb777))
               have NB777_760:=zA ((zg hg (zk BK760):gb777≠gb760))
               have NB761_777:=zA ((zl hg (zk BK761):gb761≠gb777))
               have NB777_761:=zA ((zg hg (zk BK761):gb777≠gb761))
               replace BK760:=zA (zb BK760 hb)
               replace BK761:=zA (zb BK761 hb)
               replace HB:=zA (below_step zB hb)
               clear hb hbox hg
               refine hK.out _ _ ⟨(blk_cell BK760.out 0).trans rfl,(blk_cell BK760.out 1).trans rfl,(blk_cell BK761.out 0).trans rfl,(blk_cell BK761.out 1).trans rfl⟩ (fun hHeld=>?_)
               clear hK K
               refine norm_ (a':=?_) ?_ ?_
               rotate_left
               ·show Act.put _ (some 9) _=_
                simp only [Act.put,zi,zs,zt,i64_w,i32_w]
                rfl
               exact norm_ (by first|(simp only [putAll,Act.put,zi,zs,zt];done)|(simp only [putAll,Act.put,zi,zs,zt];rfl)) (hJ5 (gb777) _ ⟨hHeld,(zk BK760),(zk BK761),(zk BK777),GW777.out,GE777.out,NB760_777.out,NB777_760.out,NB761_777.out,NB777_761.out,zB⟩)
             ·skip
              rintro gb777 w22 ⟨hS_,h0_,h1_,h2_,h3_,h4_,h5_,h6_,h7_,h8_,h9_⟩
              have BK777:Aside0 (w22.heap[gb777]?=some (.cells #[.slice none 0 0,.slice none 0 0] 29 (0,0))):=⟨h2_⟩
              have GW777:Aside0 (w.heap.size≤gb777):=⟨h3_⟩
              have GE777:Aside0 (w.heap.size≤gb777):=⟨h4_⟩
              have NB760_777:Aside0 (gb760≠gb777):=⟨h5_⟩
              have NB777_760:Aside0 (gb777≠gb760):=⟨h6_⟩
              have NB761_777:Aside0 (gb761≠gb777):=⟨h7_⟩
              have NB777_761:Aside0 (gb777≠gb761):=⟨h8_⟩
              replace BK760:Aside0 (w22.heap[gb760]?=some (.cells #[.slice A0_0 l0_0.length c0_0,.slice A0_1 l0_1.length c0_1] 29 (0,0))):=⟨h0_⟩
              replace BK761:Aside0 (w22.heap[gb761]?=some (.cells #[.slice A1_0 l1_0.length c1_0,.slice A1_1 l1_1.length c1_1] 29 (0,0))):=⟨h1_⟩
              replace HB:Aside0 (Below w.heap.size w w22):=⟨h9_⟩
              clear h0_ h1_ h2_ h3_ h4_ h5_ h6_ h7_ h8_ h9_
              have hHeld:w22.cell? ⟨gb760,0,none⟩=some (.slice A0_0 l0_0.length c0_0)∧w22.cell? ⟨gb760,1,none⟩=some (.slice A0_1 l0_1.length c0_1)∧w22.cell? ⟨gb761,0,none⟩=some (.slice A1_0 l1_0.length c1_0)∧w22.cell? ⟨gb761,1,none⟩=some (.slice A1_1 l1_1.length c1_1):=hS_
              refine norm_ (a':=?_) ?_ ?_
              rotate_left
              ·simp only [putAll,Act.put,zi,zs,zt]
               rfl
              refine two_ (i:=1) (j:=4) (Ni:=some 21) (Nj:=some 8) #[true,true,true,false,false,true,false,false] #[true,false,true,false,true,true,false,false] rfl rfl rfl rfl (two_of HT_.out zK) (by decide) (by decide) (fun K hK=>?_) (fun K hK=>?_)
              ·skip
               refine goes_ Try.func51 zK rfl #[.agg #[.slice A0_0 l0_0.length c0_0,.slice A0_1 l0_1.length c0_1]] (by rfl) rfl rfl zM ?_
               with_reducible refine (table_vital.calls k _ _ l0_0 _ _ l0_1 t764 t767 _ ?side1 ?side2 ?side3 ?side4 A17.out).mono ?_
               (case side1=>exact zC (Kd.C_below HR0_0.out HB.out))
               (case side2=>exact HC0_0.out)
               (case side3=>exact zC (Kd.C_below HR0_1.out HB.out))
               (case side4=>exact HC0_1.out)
               rintro e w23 ⟨v765,v768,rfl,ho0,ho1,hb⟩
               refine ⟨_,rfl,?_⟩
               have HO766:=zA (Kd.R_lower ho0 (below_size zB))
               have HO769:=zA (Kd.R_lower ho1 (below_size zB))
               replace BK760:=zA (zb BK760 hb)
               replace BK761:=zA (zb BK761 hb)
               replace BK777:=zA (zb BK777 hb)
               replace HB:=zA (below_step zB hb)
               (try clear hb)
               (try clear hb2)
               (try clear hk)
               (try clear hi)
               (try clear ho0)
               (try clear ho1)
               refine hK.out _ _ ⟨(blk_cell BK760.out 0).trans rfl,(blk_cell BK760.out 1).trans rfl,(blk_cell BK761.out 0).trans rfl,(blk_cell BK761.out 1).trans rfl⟩ (fun hHeld=>?_)
               clear hK K
               refine norm_ (a':=?_) ?_ ?_
               rotate_left
               ·show Act.put _ (some 21) _=_
                simp only [Act.put,zi,zs,zt,i64_w,i32_w]
                rfl
               exact norm_ (by first|(simp only [putAll,Act.put,zi,zs,zt];done)|(simp only [putAll,Act.put,zi,zs,zt];rfl)) (hJ1_5 (v765,v768,gb777) _ ⟨hHeld,(zR HO766),(zR HO769),(zk BK760),(zk BK761),(zk BK777),GW777.out,GE777.out,NB760_777.out,NB777_760.out,NB761_777.out,NB777_761.out,zB⟩)
              ·skip
               refine box_step ?hg (N:=8) ?hd (cs:=#[.slice none 0 0,.slice none 0 0]) (t:=29) ?hr ?_;(case hd=>rfl);(case hg=>rfl);(case hr=>first|(go_simp;done)|(go_simp;rfl))
               intro gb776 hg w23 hbox hb
               have BK776:=zA (hbox)
               have GW776:=zA ((zG hg (below_size zB):w.heap.size≤gb776))
               have GE776:=zA ((zG hg (below_size zB):w.heap.size≤gb776))
               have NB760_776:=zA ((zl hg (zk BK760):gb760≠gb776))
               have NB776_760:=zA ((zg hg (zk BK760):gb776≠gb760))
               have NB761_776:=zA ((zl hg (zk BK761):gb761≠gb776))
               have NB776_761:=zA ((zg hg (zk BK761):gb776≠gb761))
               have NB777_776:=zA ((zl hg (zk BK777):gb777≠gb776))
               have NB776_777:=zA ((zg hg (zk BK777):gb776≠gb777))
               replace BK760:=zA (zb BK760 hb)
               replace BK761:=zA (zb BK761 hb)
               replace BK777:=zA (zb BK777 hb)
               replace HB:=zA (below_step zB hb)
               clear hb hbox hg
               refine hK.out _ _ ⟨(blk_cell BK760.out 0).trans rfl,(blk_cell BK760.out 1).trans rfl,(blk_cell BK761.out 0).trans rfl,(blk_cell BK761.out 1).trans rfl⟩ (fun hHeld=>?_)
               clear hK K
               refine norm_ (a':=?_) ?_ ?_
               rotate_left
               ·show Act.put _ (some 8) _=_
                simp only [Act.put,zi,zs,zt,i64_w,i32_w]
                rfl
               exact norm_ (by first|(simp only [putAll,Act.put,zi,zs,zt];done)|(simp only [putAll,Act.put,zi,zs,zt];rfl)) (hJ4_5 (gb776,gb777) _ ⟨hHeld,(zk BK760),(zk BK761),(zk BK776),(zk BK777),GW776.out,GE776.out,NB760_776.out,NB776_760.out,NB761_776.out,NB776_761.out,NB777_776.out,NB776_777.out,GW777.out,GE777.out,NB760_777.out,NB777_760.out,NB761_777.out,NB777_761.out,zB⟩)
            ·skip
             rintro gb776 w22 ⟨hS_,h0_,h1_,h2_,h3_,h4_,h5_,h6_,h7_,h8_,h9_⟩
             have BK776:Aside0 (w22.heap[gb776]?=some (.cells #[.slice none 0 0,.slice none 0 0] 29 (0,0))):=⟨h2_⟩
             have GW776:Aside0 (w.heap.size≤gb776):=⟨h3_⟩
             have GE776:Aside0 (w.heap.size≤gb776):=⟨h4_⟩
             have NB760_776:Aside0 (gb760≠gb776):=⟨h5_⟩
             have NB776_760:Aside0 (gb776≠gb760):=⟨h6_⟩
             have NB761_776:Aside0 (gb761≠gb776):=⟨h7_⟩
             have NB776_761:Aside0 (gb776≠gb761):=⟨h8_⟩
             replace BK760:Aside0 (w22.heap[gb760]?=some (.cells #[.slice A0_0 l0_0.length c0_0,.slice A0_1 l0_1.length c0_1] 29 (0,0))):=⟨h0_⟩
             replace BK761:Aside0 (w22.heap[gb761]?=some (.cells #[.slice A1_0 l1_0.length c1_0,.slice A1_1 l1_1.length c1_1] 29 (0,0))):=⟨h1_⟩
             replace HB:Aside0 (Below w.heap.size w w22):=⟨h9_⟩
             clear h0_ h1_ h2_ h3_ h4_ h5_ h6_ h7_ h8_ h9_
             have hHeld:w22.cell? ⟨gb760,0,none⟩=some (.slice A0_0 l0_0.length c0_0)∧w22.cell? ⟨gb760,1,none⟩=some (.slice A0_1 l0_1.length c0_1)∧w22.cell? ⟨gb761,0,none⟩=some (.slice A1_0 l1_0.length c1_0)∧w22.cell? ⟨gb761,1,none⟩=some (.slice A1_1 l1_1.length c1_1):=hS_
             refine norm_ (a':=?_) ?_ ?_
             rotate_left
             ·simp only [putAll,Act.put,zi,zs,zt]
              rfl
             refine two_ (i:=1) (j:=5) (Ni:=some 21) (Nj:=some 9) #[true,true,true,false,true,false,false,false] #[true,false,true,false,true,true,false,false] rfl rfl rfl rfl (two_of HT_.out zK) (by decide) (by decide) (fun K hK=>?_) (fun K hK=>?_)
             ·skip
              refine goes_ Try.func51 zK rfl #[.agg #[.slice A0_0 l0_0.length c0_0,.slice A0_1 l0_1.length c0_1]] (by rfl) rfl rfl zM ?_
              with_reducible refine (table_vital.calls k _ _ l0_0 _ _ l0_1 t764 t767 _ ?side1 ?side2 ?side3 ?side4 A17.out).mono ?_
              (case side1=>exact zC (Kd.C_below HR0_0.out HB.out))
              (case side2=>exact HC0_0.out)
              (case side3=>exact zC (Kd.C_below HR0_1.out HB.out))
              (case side4=>exact HC0_1.out)
              rintro e w23 ⟨v765,v768,rfl,ho0,ho1,hb⟩
              refine ⟨_,rfl,?_⟩
              have HO766:=zA (Kd.R_lower ho0 (below_size zB))
              have HO769:=zA (Kd.R_lower ho1 (below_size zB))
              replace BK760:=zA (zb BK760 hb)
              replace BK761:=zA (zb BK761 hb)
              replace BK776:=zA (zb BK776 hb)
              replace HB:=zA (below_step zB hb)
              (try clear hb)
              (try clear hb2)
              (try clear hk)
              (try clear hi)
              (try clear ho0)
              (try clear ho1)
              refine hK.out _ _ ⟨(blk_cell BK760.out 0).trans rfl,(blk_cell BK760.out 1).trans rfl,(blk_cell BK761.out 0).trans rfl,(blk_cell BK761.out 1).trans rfl⟩ (fun hHeld=>?_)
              clear hK K
              refine norm_ (a':=?_) ?_ ?_
              rotate_left
              ·show Act.put _ (some 21) _=_
               simp only [Act.put,zi,zs,zt,i64_w,i32_w]
               rfl
              exact norm_ (by first|(simp only [putAll,Act.put,zi,zs,zt];done)|(simp only [putAll,Act.put,zi,zs,zt];rfl)) (hJ1_4 (v765,v768,gb776) _ ⟨hHeld,(zR HO766),(zR HO769),(zk BK760),(zk BK761),(zk BK776),GW776.out,GE776.out,NB760_776.out,NB776_760.out,NB761_776.out,NB776_761.out,zB⟩)
             ·skip
              refine box_step ?hg (N:=9) ?hd (cs:=#[.slice none 0 0,.slice none 0 0]) (t:=29) ?hr ?_;(case hd=>rfl);(case hg=>rfl);(case hr=>first|(go_simp;done)|(go_simp;rfl))
              intro gb777 hg w23 hbox hb
              have BK777:=zA (hbox)
              have GW777:=zA ((zG hg (below_size zB):w.heap.size≤gb777))
              have GE777:=zA ((zG hg (below_size zB):w.heap.size≤gb777))
              have NB760_777:=zA ((zl hg (zk BK760):gb760≠gb777))
              have NB777_760:=zA ((zg hg (zk BK760):gb777≠gb760))
              have NB761_777:=zA ((zl hg (zk BK761):gb761≠gb777))
              have NB777_761:=zA ((zg hg (zk BK761):gb777≠gb761))
              have NB776_777:=zA ((zl hg (zk BK776):gb776≠gb777))
              have NB777_776:=zA ((zg hg (zk BK776):gb777≠gb776))
              replace BK760:=zA (zb BK760 hb)
              replace BK761:=zA (zb BK761 hb)
              replace BK776:=zA (zb BK776 hb)
              replace HB:=zA (below_step zB hb)
              clear hb hbox hg
              refine hK.out _ _ ⟨(blk_cell BK760.out 0).trans rfl,(blk_cell BK760.out 1).trans rfl,(blk_cell BK761.out 0).trans rfl,(blk_cell BK761.out 1).trans rfl⟩ (fun hHeld=>?_)
              clear hK K
              refine norm_ (a':=?_) ?_ ?_
              rotate_left
              ·show Act.put _ (some 9) _=_
               simp only [Act.put,zi,zs,zt,i64_w,i32_w]
               rfl
              exact norm_ (by first|(simp only [putAll,Act.put,zi,zs,zt];done)|(simp only [putAll,Act.put,zi,zs,zt];rfl)) (hJ4_5 (gb776,gb777) _ ⟨hHeld,(zk BK760),(zk BK761),(zk BK776),(zk BK777),GW776.out,GE776.out,NB760_776.out,NB776_760.out,NB761_776.out,NB776_761.out,NB777_776.out,NB776_777.out,GW777.out,GE777.out,NB760_777.out,NB777_760.out,NB761_777.out,NB777_761.out,zB⟩)
           ·skip
            rintro ⟨v765,v768⟩ w22 ⟨hS_,h0_,h1_,h2_,h3_,h4_⟩
            have HO766:Aside0 (Kd.R (Kd.int .i64) 3 w22 w.heap.size (fun k_=>some k_≠(v768:Value).ownBlock) v765 t764):=⟨h0_⟩
            have HO769:Aside0 (Kd.R (Kd.int .i64) 3 w22 w.heap.size (fun k_=>some k_≠(v765:Value).ownBlock) v768 t767):=⟨h1_⟩
            replace BK760:Aside0 (w22.heap[gb760]?=some (.cells #[.slice A0_0 l0_0.length c0_0,.slice A0_1 l0_1.length c0_1] 29 (0,0))):=⟨h2_⟩
            replace BK761:Aside0 (w22.heap[gb761]?=some (.cells #[.slice A1_0 l1_0.length c1_0,.slice A1_1 l1_1.length c1_1] 29 (0,0))):=⟨h3_⟩
            replace HB:Aside0 (Below w.heap.size w w22):=⟨h4_⟩
            clear h0_ h1_ h2_ h3_ h4_
            have hHeld:w22.cell? ⟨gb760,0,none⟩=some (.slice A0_0 l0_0.length c0_0)∧w22.cell? ⟨gb760,1,none⟩=some (.slice A0_1 l0_1.length c0_1)∧w22.cell? ⟨gb761,0,none⟩=some (.slice A1_0 l1_0.length c1_0)∧w22.cell? ⟨gb761,1,none⟩=some (.slice A1_1 l1_1.length c1_1):=hS_
            refine norm_ (a':=?_) ?_ ?_
            rotate_left
            ·simp only [putAll,Act.put,zi,zs,zt]
             rfl
            refine three_ (i:=3) (j:=4) (k:=5) (Ni:=some 23) (Nj:=some 8) (Nk:=some 9) #[true,true,true,true,false,false,false,false] #[true,true,true,false,true,false,false,false] #[true,true,true,false,false,true,false,false] rfl rfl rfl rfl rfl rfl (three_of HT_.out zK) (by decide) (by decide) (by decide) (fun K hK=>?_) (fun K hK=>?_) (fun K hK=>?_)
            ·skip
             refine goes_ Try.func51 zK rfl #[.agg #[.slice A1_0 l1_0.length c1_0,.slice A1_1 l1_1.length c1_1]] (by rfl) rfl rfl zM ?_
             with_reducible refine (table_vital.calls k _ _ l1_0 _ _ l1_1 t770 t773 _ ?side1 ?side2 ?side3 ?side4 A18.out).mono ?_
             (case side1=>exact zC (Kd.C_below HR1_0.out HB.out))
             (case side2=>exact HC1_0.out)
             (case side3=>exact zC (Kd.C_below HR1_1.out HB.out))
             (case side4=>exact HC1_1.out)
             rintro e w23 ⟨v771,v774,rfl,ho0,ho1,hb⟩
             refine ⟨_,rfl,?_⟩
             have HO772:=zA (Kd.R_lower (Kd.R_new' (Kd.R_new' ho0 (Kd.R_lt (zR HO766))) (Kd.R_lt (zR HO769))) (below_size zB))
             have HO775:=zA (Kd.R_lower (Kd.R_new' (Kd.R_new' ho1 (Kd.R_lt (zR HO766))) (Kd.R_lt (zR HO769))) (below_size zB))
             replace HO766:=zA (Kd.R_mono (Kd.R_told (Kd.R_told (Kd.R_old (zR HO766) hb) (Kd.R_base ho0)) (Kd.R_base ho1)) (fun _ h_=>h_.1))
             replace HO769:=zA (Kd.R_mono (Kd.R_told (Kd.R_told (Kd.R_old (zR HO769) hb) (Kd.R_base ho0)) (Kd.R_base ho1)) (fun _ h_=>h_.1))
             replace BK760:=zA (zb BK760 hb)
             replace BK761:=zA (zb BK761 hb)
             replace HB:=zA (below_step zB hb)
             (try clear hb)
             (try clear hb2)
             (try clear hk)
             (try clear hi)
             (try clear ho0)
             (try clear ho1)
             refine hK.out _ _ ⟨(blk_cell BK760.out 0).trans rfl,(blk_cell BK760.out 1).trans rfl,(blk_cell BK761.out 0).trans rfl,(blk_cell BK761.out 1).trans rfl⟩ (fun hHeld=>?_)
             clear hK K
             refine norm_ (a':=?_) ?_ ?_
             rotate_left
             ·show Act.put _ (some 23) _=_
              simp only [Act.put,zi,zs,zt,i64_w,i32_w]
              rfl
             exact norm_ (by first|(simp only [putAll,Act.put,zi,zs,zt];done)|(simp only [putAll,Act.put,zi,zs,zt];rfl)) (hJ1_3 (v765,v768,v771,v774) _ ⟨hHeld,(by refine zr ?_;exact Kd.R_mono HO766.out (fun _ hk=>⟨hk.1.1,⟨hk.1.2,hk.2⟩⟩)),(by refine zr ?_;exact Kd.R_mono HO769.out (fun _ hk=>⟨hk.1.1,⟨hk.1.2,hk.2⟩⟩)),(by refine zr ?_;exact Kd.R_mono HO772.out (fun _ hk=>⟨hk.1.2,⟨hk.2,hk.1.1⟩⟩)),(by refine zr ?_;exact Kd.R_mono HO775.out (fun _ hk=>⟨hk.1.2,⟨hk.2,hk.1.1⟩⟩)),(zk BK760),(zk BK761),zB⟩)
            ·skip
             refine box_step ?hg (N:=8) ?hd (cs:=#[.slice none 0 0,.slice none 0 0]) (t:=29) ?hr ?_;(case hd=>rfl);(case hg=>rfl);(case hr=>first|(go_simp;done)|(go_simp;rfl))
             intro gb776 hg w23 hbox hb
             have BK776:=zA (hbox)
             have GW776:=zA ((zG hg (below_size zB):w.heap.size≤gb776))
             have GE776:=zA ((zG hg (below_size zB):w.heap.size≤gb776))
             have NB760_776:=zA ((zl hg (zk BK760):gb760≠gb776))
             have NB776_760:=zA ((zg hg (zk BK760):gb776≠gb760))
             have NB761_776:=zA ((zl hg (zk BK761):gb761≠gb776))
             have NB776_761:=zA ((zg hg (zk BK761):gb776≠gb761))
             replace HO766:=zA (Kd.R_below (zR HO766) hb)
             replace HO769:=zA (Kd.R_below (zR HO769) hb)
             replace BK760:=zA (zb BK760 hb)
             replace BK761:=zA (zb BK761 hb)
             replace HB:=zA (below_step zB hb)
             clear hb hbox hg
             refine hK.out _ _ ⟨(blk_cell BK760.out 0).trans rfl,(blk_cell BK760.out 1).trans rfl,(blk_cell BK761.out 0).trans rfl,(blk_cell BK761.out 1).trans rfl⟩ (fun hHeld=>?_)
             clear hK K
             refine norm_ (a':=?_) ?_ ?_
             rotate_left
             ·show Act.put _ (some 8) _=_
              simp only [Act.put,zi,zs,zt,i64_w,i32_w]
              rfl
             exact norm_ (by first|(simp only [putAll,Act.put,zi,zs,zt];done)|(simp only [putAll,Act.put,zi,zs,zt];rfl)) (hJ1_4 (v765,v768,gb776) _ ⟨hHeld,(zR HO766),(zR HO769),(zk BK760),(zk BK761),(zk BK776),GW776.out,GE776.out,NB760_776.out,NB776_760.out,NB761_776.out,NB776_761.out,zB⟩)
            ·skip
             refine box_step ?hg (N:=9) ?hd (cs:=#[.slice none 0 0,.slice none 0 0]) (t:=29) ?hr ?_;(case hd=>rfl);(case hg=>rfl);(case hr=>first|(go_simp;done)|(go_simp;rfl))
             intro gb777 hg w23 hbox hb
             have BK777:=zA (hbox)
             have GW777:=zA ((zG hg (below_size zB):w.heap.size≤gb777))
             have GE777:=zA ((zG hg (below_size zB):w.heap.size≤gb777))
             have NB760_777:=zA ((zl hg (zk BK760):gb760≠gb777))
             have NB777_760:=zA ((zg hg (zk BK760):gb777≠gb760))
             have NB761_777:=zA ((zl hg (zk BK761):gb761≠gb777))
             have NB777_761:=zA ((zg hg (zk BK761):gb777≠gb761))
             replace HO766:=zA (Kd.R_below (zR HO766) hb)
             replace HO769:=zA (Kd.R_below (zR HO769) hb)
             replace BK760:=zA (zb BK760 hb)
             replace BK761:=zA (zb BK761 hb)
             replace HB:=zA (below_step zB hb)
             clear hb hbox hg
             refine hK.out _ _ ⟨(blk_cell BK760.out 0).trans rfl,(blk_cell BK760.out 1).trans rfl,(blk_cell BK761.out 0).trans rfl,(blk_cell BK761.out 1).trans rfl⟩ (fun hHeld=>?_)
             clear hK K
             refine norm_ (a':=?_) ?_ ?_
             rotate_left
             ·show Act.put _ (some 9) _=_
              simp only [Act.put,zi,zs,zt,i64_w,i32_w]
              rfl
             exact norm_ (by first|(simp only [putAll,Act.put,zi,zs,zt];done)|(simp only [putAll,Act.put,zi,zs,zt];rfl)) (hJ1_5 (v765,v768,gb777) _ ⟨hHeld,(zR HO766),(zR HO769),(zk BK760),(zk BK761),(zk BK777),GW777.out,GE777.out,NB760_777.out,NB777_760.out,NB761_777.out,NB777_761.out,zB⟩)
          ·skip
           rintro ⟨gb776,gb777⟩ w23 ⟨hS_,h0_,h1_,h2_,h3_,h4_,h5_,h6_,h7_,h8_,h9_,h10_,h11_,h12_,h13_,h14_,h15_,h16_,h17_,h18_⟩
           have BK776:Aside0 (w23.heap[gb776]?=some (.cells #[.slice none 0 0,.slice none 0 0] 29 (0,0))):=⟨h2_⟩
           have BK777:Aside0 (w23.heap[gb777]?=some (.cells #[.slice none 0 0,.slice none 0 0] 29 (0,0))):=⟨h3_⟩
           have GW776:Aside0 (w.heap.size≤gb776):=⟨h4_⟩
           have GE776:Aside0 (w.heap.size≤gb776):=⟨h5_⟩
           have NB760_776:Aside0 (gb760≠gb776):=⟨h6_⟩
           have NB776_760:Aside0 (gb776≠gb760):=⟨h7_⟩
           have NB761_776:Aside0 (gb761≠gb776):=⟨h8_⟩
           have NB776_761:Aside0 (gb776≠gb761):=⟨h9_⟩
           have NB777_776:Aside0 (gb777≠gb776):=⟨h10_⟩
           have NB776_777:Aside0 (gb776≠gb777):=⟨h11_⟩
           have GW777:Aside0 (w.heap.size≤gb777):=⟨h12_⟩
           have GE777:Aside0 (w.heap.size≤gb777):=⟨h13_⟩
           have NB760_777:Aside0 (gb760≠gb777):=⟨h14_⟩
           have NB777_760:Aside0 (gb777≠gb760):=⟨h15_⟩
           have NB761_777:Aside0 (gb761≠gb777):=⟨h16_⟩
           have NB777_761:Aside0 (gb777≠gb761):=⟨h17_⟩
           replace BK760:Aside0 (w23.heap[gb760]?=some (.cells #[.slice A0_0 l0_0.length c0_0,.slice A0_1 l0_1.length c0_1] 29 (0,0))):=⟨h0_⟩
           replace BK761:Aside0 (w23.heap[gb761]?=some (.cells #[.slice A1_0 l1_0.length c1_0,.slice A1_1 l1_1.length c1_1] 29 (0,0))):=⟨h1_⟩
           replace HB:Aside0 (Below w.heap.size w w23):=⟨h18_⟩
           clear h0_ h1_ h2_ h3_ h4_ h5_ h6_ h7_ h8_ h9_ h10_ h11_ h12_ h13_ h14_ h15_ h16_ h17_ h18_
           have hHeld:w23.cell? ⟨gb760,0,none⟩=some (.slice A0_0 l0_0.length c0_0)∧w23.cell? ⟨gb760,1,none⟩=some (.slice A0_1 l0_1.length c0_1)∧w23.cell? ⟨gb761,0,none⟩=some (.slice A1_0 l1_0.length c1_0)∧w23.cell? ⟨gb761,1,none⟩=some (.slice A1_1 l1_1.length c1_1):=hS_
           refine norm_ (a':=?_) ?_ ?_
           rotate_left
           ·simp only [putAll,Act.put,zi,zs,zt]
            rfl
           refine one_ (i:=1) (N:=some 21) #[true,true,true,false,true,true,false,false] rfl rfl (one_of HT_.out zK) (by decide) (fun K hK=>?_)
           refine goes_ Try.func51 zK rfl #[.agg #[.slice A0_0 l0_0.length c0_0,.slice A0_1 l0_1.length c0_1]] (by rfl) rfl rfl zM ?_
           with_reducible refine (table_vital.calls k _ _ l0_0 _ _ l0_1 t764 t767 _ ?side1 ?side2 ?side3 ?side4 A17.out).mono ?_
           (case side1=>exact zC (Kd.C_below HR0_0.out HB.out))
           (case side2=>exact HC0_0.out)
           (case side3=>exact zC (Kd.C_below HR0_1.out HB.out))
           (case side4=>exact HC0_1.out)
           rintro e w24 ⟨v765,v768,rfl,ho0,ho1,hb⟩
           refine ⟨_,rfl,?_⟩
           have HO766:=zA (Kd.R_lower ho0 (below_size zB))
           have HO769:=zA (Kd.R_lower ho1 (below_size zB))
           replace BK760:=zA (zb BK760 hb)
           replace BK761:=zA (zb BK761 hb)
           replace BK776:=zA (zb BK776 hb)
           replace BK777:=zA (zb BK777 hb)
           replace HB:=zA (below_step zB hb)
           (try clear hb)
           (try clear hb2)
           (try clear hk)
           (try clear hi)
           (try clear ho0)
           (try clear ho1)
           refine hK.out _ _ ⟨(blk_cell BK760.out 0).trans rfl,(blk_cell BK760.out 1).trans rfl,(blk_cell BK761.out 0).trans rfl,(blk_cell BK761.out 1).trans rfl⟩ (fun hHeld=>?_)
           clear hK K
           refine norm_ (a':=?_) ?_ ?_
           rotate_left
           ·show Act.put _ (some 21) _=_
            simp only [Act.put,zi,zs,zt,i64_w,i32_w]
            rfl
           exact norm_ (by first|(simp only [putAll,Act.put,zi,zs,zt];done)|(simp only [putAll,Act.put,zi,zs,zt];rfl)) (hJ1_4_5 (v765,v768,gb776,gb777) _ ⟨hHeld,(zR HO766),(zR HO769),(zk BK760),(zk BK761),(zk BK776),(zk BK777),GW776.out,GE776.out,NB760_776.out,NB776_760.out,NB761_776.out,NB776_761.out,NB777_776.out,NB776_777.out,GW777.out,GE777.out,NB760_777.out,NB777_760.out,NB761_777.out,NB777_761.out,zB⟩)
         ·skip
          rintro ⟨v765,v768,gb777⟩ w23 ⟨hS_,h0_,h1_,h2_,h3_,h4_,h5_,h6_,h7_,h8_,h9_,h10_,h11_⟩
          have HO766:Aside0 (Kd.R (Kd.int .i64) 3 w23 w.heap.size (fun k_=>some k_≠(v768:Value).ownBlock) v765 t764):=⟨h0_⟩
          have HO769:Aside0 (Kd.R (Kd.int .i64) 3 w23 w.heap.size (fun k_=>some k_≠(v765:Value).ownBlock) v768 t767):=⟨h1_⟩
          have BK777:Aside0 (w23.heap[gb777]?=some (.cells #[.slice none 0 0,.slice none 0 0] 29 (0,0))):=⟨h4_⟩
          have GW777:Aside0 (w.heap.size≤gb777):=⟨h5_⟩
          have GE777:Aside0 (w.heap.size≤gb777):=⟨h6_⟩
          have NB760_777:Aside0 (gb760≠gb777):=⟨h7_⟩
          have NB777_760:Aside0 (gb777≠gb760):=⟨h8_⟩
          have NB761_777:Aside0 (gb761≠gb777):=⟨h9_⟩
          have NB777_761:Aside0 (gb777≠gb761):=⟨h10_⟩
          replace BK760:Aside0 (w23.heap[gb760]?=some (.cells #[.slice A0_0 l0_0.length c0_0,.slice A0_1 l0_1.length c0_1] 29 (0,0))):=⟨h2_⟩
          replace BK761:Aside0 (w23.heap[gb761]?=some (.cells #[.slice A1_0 l1_0.length c1_0,.slice A1_1 l1_1.length c1_1] 29 (0,0))):=⟨h3_⟩
          replace HB:Aside0 (Below w.heap.size w w23):=⟨h11_⟩
          clear h0_ h1_ h2_ h3_ h4_ h5_ h6_ h7_ h8_ h9_ h10_ h11_
          have hHeld:w23.cell? ⟨gb760,0,none⟩=some (.slice A0_0 l0_0.length c0_0)∧w23.cell? ⟨gb760,1,none⟩=some (.slice A0_1 l0_1.length c0_1)∧w23.cell? ⟨gb761,0,none⟩=some (.slice A1_0 l1_0.length c1_0)∧w23.cell? ⟨gb761,1,none⟩=some (.slice A1_1 l1_1.length c1_1):=hS_
          refine norm_ (a':=?_) ?_ ?_
          rotate_left
          ·simp only [putAll,Act.put,zi,zs,zt]
           rfl
          refine two_ (i:=3) (j:=4) (Ni:=some 23) (Nj:=some 8) #[true,true,true,true,false,true,false,false] #[true,true,true,false,true,true,false,false] rfl rfl rfl rfl (two_of HT_.out zK) (by decide) (by decide) (fun K hK=>?_) (fun K hK=>?_)
          ·skip
           refine goes_ Try.func51 zK rfl #[.agg #[.slice A1_0 l1_0.length c1_0,.slice A1_1 l1_1.length c1_1]] (by rfl) rfl rfl zM ?_
           with_reducible refine (table_vital.calls k _ _ l1_0 _ _ l1_1 t770 t773 _ ?side1 ?side2 ?side3 ?side4 A18.out).mono ?_
           (case side1=>exact zC (Kd.C_below HR1_0.out HB.out))
           (case side2=>exact HC1_0.out)
           (case side3=>exact zC (Kd.C_below HR1_1.out HB.out))
           (case side4=>exact HC1_1.out)
           rintro e w24 ⟨v771,v774,rfl,ho0,ho1,hb⟩
           refine ⟨_,rfl,?_⟩
           have HO772:=zA (Kd.R_lower (Kd.R_new' (Kd.R_new' ho0 (Kd.R_lt (zR HO766))) (Kd.R_lt (zR HO769))) (below_size zB))
           have HO775:=zA (Kd.R_lower (Kd.R_new' (Kd.R_new' ho1 (Kd.R_lt (zR HO766))) (Kd.R_lt (zR HO769))) (below_size zB))
           replace HO766:=zA (Kd.R_mono (Kd.R_told (Kd.R_told (Kd.R_old (zR HO766) hb) (Kd.R_base ho0)) (Kd.R_base ho1)) (fun _ h_=>h_.1))
           replace HO769:=zA (Kd.R_mono (Kd.R_told (Kd.R_told (Kd.R_old (zR HO769) hb) (Kd.R_base ho0)) (Kd.R_base ho1)) (fun _ h_=>h_.1))
           replace BK760:=zA (zb BK760 hb)
           replace BK761:=zA (zb BK761 hb)
           replace BK777:=zA (zb BK777 hb)
           replace HB:=zA (below_step zB hb)
           (try clear hb)
           (try clear hb2)
           (try clear hk)
           (try clear hi)
           (try clear ho0)
           (try clear ho1)
           refine hK.out _ _ ⟨(blk_cell BK760.out 0).trans rfl,(blk_cell BK760.out 1).trans rfl,(blk_cell BK761.out 0).trans rfl,(blk_cell BK761.out 1).trans rfl⟩ (fun hHeld=>?_)
           clear hK K
           refine norm_ (a':=?_) ?_ ?_
           rotate_left
           ·show Act.put _ (some 23) _=_
            simp only [Act.put,zi,zs,zt,i64_w,i32_w]
            rfl
           exact norm_ (by first|(simp only [putAll,Act.put,zi,zs,zt];done)|(simp only [putAll,Act.put,zi,zs,zt];rfl)) (hJ1_3_5 (v765,v768,v771,v774,gb777) _ ⟨hHeld,(by refine zr ?_;exact Kd.R_mono HO766.out (fun _ hk=>⟨hk.1.1,⟨hk.1.2,hk.2⟩⟩)),(by refine zr ?_;exact Kd.R_mono HO769.out (fun _ hk=>⟨hk.1.1,⟨hk.1.2,hk.2⟩⟩)),(by refine zr ?_;exact Kd.R_mono HO772.out (fun _ hk=>⟨hk.1.2,⟨hk.2,hk.1.1⟩⟩)),(by refine zr ?_;exact Kd.R_mono HO775.out (fun _ hk=>⟨hk.1.2,⟨hk.2,hk.1.1⟩⟩)),(zk BK760),(zk BK761),(zk BK777),GW777.out,GE777.out,NB760_777.out,NB777_760.out,NB761_777.out,NB777_761.out,zB⟩)
          ·skip
           refine box_step ?hg (N:=8) ?hd (cs:=#[.slice none 0 0,.slice none 0 0]) (t:=29) ?hr ?_;(case hd=>rfl);(case hg=>rfl);(case hr=>first|(go_simp;done)|(go_simp;rfl))
           intro gb776 hg w24 hbox hb
           have BK776:=zA (hbox)
           have GW776:=zA ((zG hg (below_size zB):w.heap.size≤gb776))
           have GE776:=zA ((zG hg (below_size zB):w.heap.size≤gb776))
           have NB760_776:=zA ((zl hg (zk BK760):gb760≠gb776))
           have NB776_760:=zA ((zg hg (zk BK760):gb776≠gb760))
           have NB761_776:=zA ((zl hg (zk BK761):gb761≠gb776))
           have NB776_761:=zA ((zg hg (zk BK761):gb776≠gb761))
           have NB777_776:=zA ((zl hg (zk BK777):gb777≠gb776))
           have NB776_777:=zA ((zg hg (zk BK777):gb776≠gb777))
           replace HO766:=zA (Kd.R_below (zR HO766) hb)
           replace HO769:=zA (Kd.R_below (zR HO769) hb)
           replace BK760:=zA (zb BK760 hb)
           replace BK761:=zA (zb BK761 hb)
           replace BK777:=zA (zb BK777 hb)
           replace HB:=zA (below_step zB hb)
           clear hb hbox hg
           refine hK.out _ _ ⟨(blk_cell BK760.out 0).trans rfl,(blk_cell BK760.out 1).trans rfl,(blk_cell BK761.out 0).trans rfl,(blk_cell BK761.out 1).trans rfl⟩ (fun hHeld=>?_)
           clear hK K
           refine norm_ (a':=?_) ?_ ?_
           rotate_left
           ·show Act.put _ (some 8) _=_
            simp only [Act.put,zi,zs,zt,i64_w,i32_w]
            rfl
           exact norm_ (by first|(simp only [putAll,Act.put,zi,zs,zt];done)|(simp only [putAll,Act.put,zi,zs,zt];rfl)) (hJ1_4_5 (v765,v768,gb776,gb777) _ ⟨hHeld,(zR HO766),(zR HO769),(zk BK760),(zk BK761),(zk BK776),(zk BK777),GW776.out,GE776.out,NB760_776.out,NB776_760.out,NB761_776.out,NB776_761.out,NB777_776.out,NB776_777.out,GW777.out,GE777.out,NB760_777.out,NB777_760.out,NB761_777.out,NB777_761.out,zB⟩)
        ·skip
         rintro ⟨v765,v768,gb776⟩ w23 ⟨hS_,h0_,h1_,h2_,h3_,h4_,h5_,h6_,h7_,h8_,h9_,h10_,h11_⟩
         have HO766:Aside0 (Kd.R (Kd.int .i64) 3 w23 w.heap.size (fun k_=>some k_≠(v768:Value).ownBlock) v765 t764):=⟨h0_⟩
         have HO769:Aside0 (Kd.R (Kd.int .i64) 3 w23 w.heap.size (fun k_=>some k_≠(v765:Value).ownBlock) v768 t767):=⟨h1_⟩
         have BK776:Aside0 (w23.heap[gb776]?=some (.cells #[.slice none 0 0,.slice none 0 0] 29 (0,0))):=⟨h4_⟩
         have GW776:Aside0 (w.heap.size≤gb776):=⟨h5_⟩
         have GE776:Aside0 (w.heap.size≤gb776):=⟨h6_⟩
         have NB760_776:Aside0 (gb760≠gb776):=⟨h7_⟩
         have NB776_760:Aside0 (gb776≠gb760):=⟨h8_⟩
         have NB761_776:Aside0 (gb761≠gb776):=⟨h9_⟩
         have NB776_761:Aside0 (gb776≠gb761):=⟨h10_⟩
         replace BK760:Aside0 (w23.heap[gb760]?=some (.cells #[.slice A0_0 l0_0.length c0_0,.slice A0_1 l0_1.length c0_1] 29 (0,0))):=⟨h2_⟩
         replace BK761:Aside0 (w23.heap[gb761]?=some (.cells #[.slice A1_0 l1_0.length c1_0,.slice A1_1 l1_1.length c1_1] 29 (0,0))):=⟨h3_⟩
         replace HB:Aside0 (Below w.heap.size w w23):=⟨h11_⟩
         clear h0_ h1_ h2_ h3_ h4_ h5_ h6_ h7_ h8_ h9_ h10_ h11_
         have hHeld:w23.cell? ⟨gb760,0,none⟩=some (.slice A0_0 l0_0.length c0_0)∧w23.cell? ⟨gb760,1,none⟩=some (.slice A0_1 l0_1.length c0_1)∧w23.cell? ⟨gb761,0,none⟩=some (.slice A1_0 l1_0.length c1_0)∧w23.cell? ⟨gb761,1,none⟩=some (.slice A1_1 l1_1.length c1_1):=hS_
         refine norm_ (a':=?_) ?_ ?_
         rotate_left
         ·simp only [putAll,Act.put,zi,zs,zt]
          rfl
         refine two_ (i:=3) (j:=5) (Ni:=some 23) (Nj:=some 9) #[true,true,true,true,true,false,false,false] #[true,true,true,false,true,true,false,false] rfl rfl rfl rfl (two_of HT_.out zK) (by decide) (by decide) (fun K hK=>?_) (fun K hK=>?_)
         ·skip
          refine goes_ Try.func51 zK rfl #[.agg #[.slice A1_0 l1_0.length c1_0,.slice A1_1 l1_1.length c1_1]] (by rfl) rfl rfl zM ?_
          with_reducible refine (table_vital.calls k _ _ l1_0 _ _ l1_1 t770 t773 _ ?side1 ?side2 ?side3 ?side4 A18.out).mono ?_
          (case side1=>exact zC (Kd.C_below HR1_0.out HB.out))
          (case side2=>exact HC1_0.out)
          (case side3=>exact zC (Kd.C_below HR1_1.out HB.out))
          (case side4=>exact HC1_1.out)
          rintro e w24 ⟨v771,v774,rfl,ho0,ho1,hb⟩
          refine ⟨_,rfl,?_⟩
          have HO772:=zA (Kd.R_lower (Kd.R_new' (Kd.R_new' ho0 (Kd.R_lt (zR HO766))) (Kd.R_lt (zR HO769))) (below_size zB))
          have HO775:=zA (Kd.R_lower (Kd.R_new' (Kd.R_new' ho1 (Kd.R_lt (zR HO766))) (Kd.R_lt (zR HO769))) (below_size zB))
          replace HO766:=zA (Kd.R_mono (Kd.R_told (Kd.R_told (Kd.R_old (zR HO766) hb) (Kd.R_base ho0)) (Kd.R_base ho1)) (fun _ h_=>h_.1))
          replace HO769:=zA (Kd.R_mono (Kd.R_told (Kd.R_told (Kd.R_old (zR HO769) hb) (Kd.R_base ho0)) (Kd.R_base ho1)) (fun _ h_=>h_.1))
          replace BK760:=zA (zb BK760 hb)
          replace BK761:=zA (zb BK761 hb)
          replace BK776:=zA (zb BK776 hb)
          replace HB:=zA (below_step zB hb)
          (try clear hb)
          (try clear hb2)
          (try clear hk)
          (try clear hi)
          (try clear ho0)
          (try clear ho1)
          refine hK.out _ _ ⟨(blk_cell BK760.out 0).trans rfl,(blk_cell BK760.out 1).trans rfl,(blk_cell BK761.out 0).trans rfl,(blk_cell BK761.out 1).trans rfl⟩ (fun hHeld=>?_)
          clear hK K
          refine norm_ (a':=?_) ?_ ?_
          rotate_left
          ·show Act.put _ (some 23) _=_
           simp only [Act.put,zi,zs,zt,i64_w,i32_w]
           rfl
          exact norm_ (by first|(simp only [putAll,Act.put,zi,zs,zt];done)|(simp only [putAll,Act.put,zi,zs,zt];rfl)) (hJ1_3_4 (v765,v768,v771,v774,gb776) _ ⟨hHeld,(by refine zr ?_;exact Kd.R_mono HO766.out (fun _ hk=>⟨hk.1.1,⟨hk.1.2,hk.2⟩⟩)),(by refine zr ?_;exact Kd.R_mono HO769.out (fun _ hk=>⟨hk.1.1,⟨hk.1.2,hk.2⟩⟩)),(by refine zr ?_;exact Kd.R_mono HO772.out (fun _ hk=>⟨hk.1.2,⟨hk.2,hk.1.1⟩⟩)),(by refine zr ?_;exact Kd.R_mono HO775.out (fun _ hk=>⟨hk.1.2,⟨hk.2,hk.1.1⟩⟩)),(zk BK760),(zk BK761),(zk BK776),GW776.out,GE776.out,NB760_776.out,NB776_760.out,NB761_776.out,NB776_761.out,zB⟩)
         ·skip
          refine box_step ?hg (N:=9) ?hd (cs:=#[.slice none 0 0,.slice none 0 0]) (t:=29) ?hr ?_;(case hd=>rfl);(case hg=>rfl);(case hr=>first|(go_simp;done)|(go_simp;rfl))
          intro gb777 hg w24 hbox hb
          have BK777:=zA (hbox)
          have GW777:=zA ((zG hg (below_size zB):w.heap.size≤gb777))
          have GE777:=zA ((zG hg (below_size zB):w.heap.size≤gb777))
          have NB760_777:=zA ((zl hg (zk BK760):gb760≠gb777))
          have NB777_760:=zA ((zg hg (zk BK760):gb777≠gb760))
          have NB761_777:=zA ((zl hg (zk BK761):gb761≠gb777))
          have NB777_761:=zA ((zg hg (zk BK761):gb777≠gb761))
          have NB776_777:=zA ((zl hg (zk BK776):gb776≠gb777))
          have NB777_776:=zA ((zg hg (zk BK776):gb777≠gb776))
          replace HO766:=zA (Kd.R_below (zR HO766) hb)
          replace HO769:=zA (Kd.R_below (zR HO769) hb)
          replace BK760:=zA (zb BK760 hb)
          replace BK761:=zA (zb BK761 hb)
          replace BK776:=zA (zb BK776 hb)
          replace HB:=zA (below_step zB hb)
          clear hb hbox hg
          refine hK.out _ _ ⟨(blk_cell BK760.out 0).trans rfl,(blk_cell BK760.out 1).trans rfl,(blk_cell BK761.out 0).trans rfl,(blk_cell BK761.out 1).trans rfl⟩ (fun hHeld=>?_)
          clear hK K
          refine norm_ (a':=?_) ?_ ?_
          rotate_left
          ·show Act.put _ (some 9) _=_
           simp only [Act.put,zi,zs,zt,i64_w,i32_w]
           rfl
          exact norm_ (by first|(simp only [putAll,Act.put,zi,zs,zt];done)|(simp only [putAll,Act.put,zi,zs,zt];rfl)) (hJ1_4_5 (v765,v768,gb776,gb777) _ ⟨hHeld,(zR HO766),(zR HO769),(zk BK760),(zk BK761),(zk BK776),(zk BK777),GW776.out,GE776.out,NB760_776.out,NB776_760.out,NB761_776.out,NB776_761.out,NB777_776.out,NB776_777.out,GW777.out,GE777.out,NB760_777.out,NB777_760.out,NB761_777.out,NB777_761.out,zB⟩)
       ·skip
        rintro ⟨v765,v768,v771,v774⟩ w23 ⟨hS_,h0_,h1_,h2_,h3_,h4_,h5_,h6_⟩
        have HO766:Aside0 (Kd.R (Kd.int .i64) 3 w23 w.heap.size (fun k_=>some k_≠(v768:Value).ownBlock∧some k_≠(v771:Value).ownBlock∧some k_≠(v774:Value).ownBlock) v765 t764):=⟨h0_⟩
        have HO769:Aside0 (Kd.R (Kd.int .i64) 3 w23 w.heap.size (fun k_=>some k_≠(v765:Value).ownBlock∧some k_≠(v771:Value).ownBlock∧some k_≠(v774:Value).ownBlock) v768 t767):=⟨h1_⟩
        have HO772:Aside0 (Kd.R (Kd.int .i64) 3 w23 w.heap.size (fun k_=>some k_≠(v765:Value).ownBlock∧some k_≠(v768:Value).ownBlock∧some k_≠(v774:Value).ownBlock) v771 t770):=⟨h2_⟩
        have HO775:Aside0 (Kd.R (Kd.int .i64) 3 w23 w.heap.size (fun k_=>some k_≠(v765:Value).ownBlock∧some k_≠(v768:Value).ownBlock∧some k_≠(v771:Value).ownBlock) v774 t773):=⟨h3_⟩
        replace BK760:Aside0 (w23.heap[gb760]?=some (.cells #[.slice A0_0 l0_0.length c0_0,.slice A0_1 l0_1.length c0_1] 29 (0,0))):=⟨h4_⟩
        replace BK761:Aside0 (w23.heap[gb761]?=some (.cells #[.slice A1_0 l1_0.length c1_0,.slice A1_1 l1_1.length c1_1] 29 (0,0))):=⟨h5_⟩
        replace HB:Aside0 (Below w.heap.size w w23):=⟨h6_⟩
        clear h0_ h1_ h2_ h3_ h4_ h5_ h6_
        have hHeld:w23.cell? ⟨gb760,0,none⟩=some (.slice A0_0 l0_0.length c0_0)∧w23.cell? ⟨gb760,1,none⟩=some (.slice A0_1 l0_1.length c0_1)∧w23.cell? ⟨gb761,0,none⟩=some (.slice A1_0 l1_0.length c1_0)∧w23.cell? ⟨gb761,1,none⟩=some (.slice A1_1 l1_1.length c1_1):=hS_
        refine norm_ (a':=?_) ?_ ?_
        rotate_left
        ·simp only [putAll,Act.put,zi,zs,zt]
         rfl
        refine two_ (i:=4) (j:=5) (Ni:=some 8) (Nj:=some 9) #[true,true,true,true,true,false,false,false] #[true,true,true,true,false,true,false,false] rfl rfl rfl rfl (two_of HT_.out zK) (by decide) (by decide) (fun K hK=>?_) (fun K hK=>?_)
        ·skip
         refine box_step ?hg (N:=8) ?hd (cs:=#[.slice none 0 0,.slice none 0 0]) (t:=29) ?hr ?_;(case hd=>rfl);(case hg=>rfl);(case hr=>first|(go_simp;done)|(go_simp;rfl))
         intro gb776 hg w24 hbox hb
         have BK776:=zA (hbox)
         have GW776:=zA ((zG hg (below_size zB):w.heap.size≤gb776))
         have GE776:=zA ((zG hg (below_size zB):w.heap.size≤gb776))
         have NB760_776:=zA ((zl hg (zk BK760):gb760≠gb776))
         have NB776_760:=zA ((zg hg (zk BK760):gb776≠gb760))
         have NB761_776:=zA ((zl hg (zk BK761):gb761≠gb776))
         have NB776_761:=zA ((zg hg (zk BK761):gb776≠gb761))
         replace HO766:=zA (Kd.R_below (zR HO766) hb)
         replace HO769:=zA (Kd.R_below (zR HO769) hb)
         replace HO772:=zA (Kd.R_below (zR HO772) hb)
         replace HO775:=zA (Kd.R_below (zR HO775) hb)
         replace BK760:=zA (zb BK760 hb)
         replace BK761:=zA (zb BK761 hb)
         replace HB:=zA (below_step zB hb)
         clear hb hbox hg
         refine hK.out _ _ ⟨(blk_cell BK760.out 0).trans rfl,(blk_cell BK760.out 1).trans rfl,(blk_cell BK761.out 0).trans rfl,(blk_cell BK761.out 1).trans rfl⟩ (fun hHeld=>?_)
         clear hK K
         refine norm_ (a':=?_) ?_ ?_
         rotate_left
         ·show Act.put _ (some 8) _=_
          simp only [Act.put,zi,zs,zt,i64_w,i32_w]
          rfl
         exact norm_ (by first|(simp only [putAll,Act.put,zi,zs,zt];done)|(simp only [putAll,Act.put,zi,zs,zt];rfl)) (hJ1_3_4 (v765,v768,v771,v774,gb776) _ ⟨hHeld,(zR HO766),(zR HO769),(zR HO772),(zR HO775),(zk BK760),(zk BK761),(zk BK776),GW776.out,GE776.out,NB760_776.out,NB776_760.out,NB761_776.out,NB776_761.out,zB⟩)
        ·skip
         refine box_step ?hg (N:=9) ?hd (cs:=#[.slice none 0 0,.slice none 0 0]) (t:=29) ?hr ?_;(case hd=>rfl);(case hg=>rfl);(case hr=>first|(go_simp;done)|(go_simp;rfl))
         intro gb777 hg w24 hbox hb
         have BK777:=zA (hbox)
         have GW777:=zA ((zG hg (below_size zB):w.heap.size≤gb777))
         have GE777:=zA ((zG hg (below_size zB):w.heap.size≤gb777))
         have NB760_777:=zA ((zl hg (zk BK760):gb760≠gb777))
         have NB777_760:=zA ((zg hg (zk BK760):gb777≠gb760))
         have NB761_777:=zA ((zl hg (zk BK761):gb761≠gb777))
         have NB777_761:=zA ((zg hg (zk BK761):gb777≠gb761))
         replace HO766:=zA (Kd.R_below (zR HO766) hb)
         replace HO769:=zA (Kd.R_below (zR HO769) hb)
         replace HO772:=zA (Kd.R_below (zR HO772) hb)
         replace HO775:=zA (Kd.R_below (zR HO775) hb)
         replace BK760:=zA (zb BK760 hb)
         replace BK761:=zA (zb BK761 hb)
         replace HB:=zA (below_step zB hb)
         clear hb hbox hg
         refine hK.out _ _ ⟨(blk_cell BK760.out 0).trans rfl,(blk_cell BK760.out 1).trans rfl,(blk_cell BK761.out 0).trans rfl,(blk_cell BK761.out 1).trans rfl⟩ (fun hHeld=>?_)
         clear hK K
         refine norm_ (a':=?_) ?_ ?_
         rotate_left
         ·show Act.put _ (some 9) _=_
          simp only [Act.put,zi,zs,zt,i64_w,i32_w]
          rfl
         exact norm_ (by first|(simp only [putAll,Act.put,zi,zs,zt];done)|(simp only [putAll,Act.put,zi,zs,zt];rfl)) (hJ1_3_5 (v765,v768,v771,v774,gb777) _ ⟨hHeld,(zR HO766),(zR HO769),(zR HO772),(zR HO775),(zk BK760),(zk BK761),(zk BK777),GW777.out,GE777.out,NB760_777.out,NB777_760.out,NB761_777.out,NB777_761.out,zB⟩)
      ·skip
       rintro ⟨v765,v768,gb776,gb777⟩ w24 ⟨hS_,h0_,h1_,h2_,h3_,h4_,h5_,h6_,h7_,h8_,h9_,h10_,h11_,h12_,h13_,h14_,h15_,h16_,h17_,h18_,h19_,h20_⟩
       have HO766:Aside0 (Kd.R (Kd.int .i64) 3 w24 w.heap.size (fun k_=>some k_≠(v768:Value).ownBlock) v765 t764):=⟨h0_⟩
       have HO769:Aside0 (Kd.R (Kd.int .i64) 3 w24 w.heap.size (fun k_=>some k_≠(v765:Value).ownBlock) v768 t767):=⟨h1_⟩
       have BK776:Aside0 (w24.heap[gb776]?=some (.cells #[.slice none 0 0,.slice none 0 0] 29 (0,0))):=⟨h4_⟩
       have BK777:Aside0 (w24.heap[gb777]?=some (.cells #[.slice none 0 0,.slice none 0 0] 29 (0,0))):=⟨h5_⟩
       have GW776:Aside0 (w.heap.size≤gb776):=⟨h6_⟩
       have GE776:Aside0 (w.heap.size≤gb776):=⟨h7_⟩
       have NB760_776:Aside0 (gb760≠gb776):=⟨h8_⟩
       have NB776_760:Aside0 (gb776≠gb760):=⟨h9_⟩
       have NB761_776:Aside0 (gb761≠gb776):=⟨h10_⟩
       have NB776_761:Aside0 (gb776≠gb761):=⟨h11_⟩
       have NB777_776:Aside0 (gb777≠gb776):=⟨h12_⟩
       have NB776_777:Aside0 (gb776≠gb777):=⟨h13_⟩
       have GW777:Aside0 (w.heap.size≤gb777):=⟨h14_⟩
       have GE777:Aside0 (w.heap.size≤gb777):=⟨h15_⟩
       have NB760_777:Aside0 (gb760≠gb777):=⟨h16_⟩
       have NB777_760:Aside0 (gb777≠gb760):=⟨h17_⟩
       have NB761_777:Aside0 (gb761≠gb777):=⟨h18_⟩
       have NB777_761:Aside0 (gb777≠gb761):=⟨h19_⟩
       replace BK760:Aside0 (w24.heap[gb760]?=some (.cells #[.slice A0_0 l0_0.length c0_0,.slice A0_1 l0_1.length c0_1] 29 (0,0))):=⟨h2_⟩
       replace BK761:Aside0 (w24.heap[gb761]?=some (.cells #[.slice A1_0 l1_0.length c1_0,.slice A1_1 l1_1.length c1_1] 29 (0,0))):=⟨h3_⟩
       replace HB:Aside0 (Below w.heap.size w w24):=⟨h20_⟩
       clear h0_ h1_ h2_ h3_ h4_ h5_ h6_ h7_ h8_ h9_ h10_ h11_ h12_ h13_ h14_ h15_ h16_ h17_ h18_ h19_ h20_
       have hHeld:w24.cell? ⟨gb760,0,none⟩=some (.slice A0_0 l0_0.length c0_0)∧w24.cell? ⟨gb760,1,none⟩=some (.slice A0_1 l0_1.length c0_1)∧w24.cell? ⟨gb761,0,none⟩=some (.slice A1_0 l1_0.length c1_0)∧w24.cell? ⟨gb761,1,none⟩=some (.slice A1_1 l1_1.length c1_1):=hS_
       refine norm_ (a':=?_) ?_ ?_
       rotate_left
       ·simp only [putAll,Act.put,zi,zs,zt]
        rfl
       refine one_ (i:=3) (N:=some 23) #[true,true,true,true,true,true,false,false] rfl rfl (one_of HT_.out zK) (by decide) (fun K hK=>?_)
       refine goes_ Try.func51 zK rfl #[.agg #[.slice A1_0 l1_0.length c1_0,.slice A1_1 l1_1.length c1_1]] (by rfl) rfl rfl zM ?_
       with_reducible refine (table_vital.calls k _ _ l1_0 _ _ l1_1 t770 t773 _ ?side1 ?side2 ?side3 ?side4 A18.out).mono ?_
       (case side1=>exact zC (Kd.C_below HR1_0.out HB.out))
       (case side2=>exact HC1_0.out)
       (case side3=>exact zC (Kd.C_below HR1_1.out HB.out))
       (case side4=>exact HC1_1.out)
       rintro e w25 ⟨v771,v774,rfl,ho0,ho1,hb⟩
       refine ⟨_,rfl,?_⟩
       have HO772:=zA (Kd.R_lower (Kd.R_new' (Kd.R_new' ho0 (Kd.R_lt (zR HO766))) (Kd.R_lt (zR HO769))) (below_size zB))
       have HO775:=zA (Kd.R_lower (Kd.R_new' (Kd.R_new' ho1 (Kd.R_lt (zR HO766))) (Kd.R_lt (zR HO769))) (below_size zB))
       replace HO766:=zA (Kd.R_mono (Kd.R_told (Kd.R_told (Kd.R_old (zR HO766) hb) (Kd.R_base ho0)) (Kd.R_base ho1)) (fun _ h_=>h_.1))
       replace HO769:=zA (Kd.R_mono (Kd.R_told (Kd.R_told (Kd.R_old (zR HO769) hb) (Kd.R_base ho0)) (Kd.R_base ho1)) (fun _ h_=>h_.1))
       replace BK760:=zA (zb BK760 hb)
       replace BK761:=zA (zb BK761 hb)
       replace BK776:=zA (zb BK776 hb)
       replace BK777:=zA (zb BK777 hb)
       replace HB:=zA (below_step zB hb)
       (try clear hb)
       (try clear hb2)
       (try clear hk)
       (try clear hi)
       (try clear ho0)
       (try clear ho1)
       refine hK.out _ _ ⟨(blk_cell BK760.out 0).trans rfl,(blk_cell BK760.out 1).trans rfl,(blk_cell BK761.out 0).trans rfl,(blk_cell BK761.out 1).trans rfl⟩ (fun hHeld=>?_)
       clear hK K
       refine norm_ (a':=?_) ?_ ?_
       rotate_left
       ·show Act.put _ (some 23) _=_
        simp only [Act.put,zi,zs,zt,i64_w,i32_w]
        rfl
       exact norm_ (by first|(simp only [putAll,Act.put,zi,zs,zt];done)|(simp only [putAll,Act.put,zi,zs,zt];rfl)) (hJ1_3_4_5 (v765,v768,v771,v774,gb776,gb777) _ ⟨hHeld,(by refine zr ?_;exact Kd.R_mono HO766.out (fun _ hk=>⟨hk.1.1,⟨hk.1.2,hk.2⟩⟩)),(by refine zr ?_;exact Kd.R_mono HO769.out (fun _ hk=>⟨hk.1.1,⟨hk.1.2,hk.2⟩⟩)),(by refine zr ?_;exact Kd.R_mono HO772.out (fun _ hk=>⟨hk.1.2,⟨hk.2,hk.1.1⟩⟩)),(by refine zr ?_;exact Kd.R_mono HO775.out (fun _ hk=>⟨hk.1.2,⟨hk.2,hk.1.1⟩⟩)),(zk BK760),(zk BK761),(zk BK776),(zk BK777),GW776.out,GE776.out,NB760_776.out,NB776_760.out,NB761_776.out,NB776_761.out,NB777_776.out,NB776_777.out,GW777.out,GE777.out,NB760_777.out,NB777_760.out,NB761_777.out,NB777_761.out,zB⟩)
     ·skip
      rintro ⟨v765,v768,v771,v774,gb777⟩ w24 ⟨hS_,h0_,h1_,h2_,h3_,h4_,h5_,h6_,h7_,h8_,h9_,h10_,h11_,h12_,h13_⟩
      have HO766:Aside0 (Kd.R (Kd.int .i64) 3 w24 w.heap.size (fun k_=>some k_≠(v768:Value).ownBlock∧some k_≠(v771:Value).ownBlock∧some k_≠(v774:Value).ownBlock) v765 t764):=⟨h0_⟩
      have HO769:Aside0 (Kd.R (Kd.int .i64) 3 w24 w.heap.size (fun k_=>some k_≠(v765:Value).ownBlock∧some k_≠(v771:Value).ownBlock∧some k_≠(v774:Value).ownBlock) v768 t767):=⟨h1_⟩
      have HO772:Aside0 (Kd.R (Kd.int .i64) 3 w24 w.heap.size (fun k_=>some k_≠(v765:Value).ownBlock∧some k_≠(v768:Value).ownBlock∧some k_≠(v774:Value).ownBlock) v771 t770):=⟨h2_⟩
      have HO775:Aside0 (Kd.R (Kd.int .i64) 3 w24 w.heap.size (fun k_=>some k_≠(v765:Value).ownBlock∧some k_≠(v768:Value).ownBlock∧some k_≠(v771:Value).ownBlock) v774 t773):=⟨h3_⟩
      have BK777:Aside0 (w24.heap[gb777]?=some (.cells #[.slice none 0 0,.slice none 0 0] 29 (0,0))):=⟨h6_⟩
      have GW777:Aside0 (w.heap.size≤gb777):=⟨h7_⟩
      have GE777:Aside0 (w.heap.size≤gb777):=⟨h8_⟩
      have NB760_777:Aside0 (gb760≠gb777):=⟨h9_⟩
      have NB777_760:Aside0 (gb777≠gb760):=⟨h10_⟩
      have NB761_777:Aside0 (gb761≠gb777):=⟨h11_⟩
      have NB777_761:Aside0 (gb777≠gb761):=⟨h12_⟩
      replace BK760:Aside0 (w24.heap[gb760]?=some (.cells #[.slice A0_0 l0_0.length c0_0,.slice A0_1 l0_1.length c0_1] 29 (0,0))):=⟨h4_⟩
      replace BK761:Aside0 (w24.heap[gb761]?=some (.cells #[.slice A1_0 l1_0.length c1_0,.slice A1_1 l1_1.length c1_1] 29 (0,0))):=⟨h5_⟩
      replace HB:Aside0 (Below w.heap.size w w24):=⟨h13_⟩
      clear h0_ h1_ h2_ h3_ h4_ h5_ h6_ h7_ h8_ h9_ h10_ h11_ h12_ h13_
      have hHeld:w24.cell? ⟨gb760,0,none⟩=some (.slice A0_0 l0_0.length c0_0)∧w24.cell? ⟨gb760,1,none⟩=some (.slice A0_1 l0_1.length c0_1)∧w24.cell? ⟨gb761,0,none⟩=some (.slice A1_0 l1_0.length c1_0)∧w24.cell? ⟨gb761,1,none⟩=some (.slice A1_1 l1_1.length c1_1):=hS_
      refine norm_ (a':=?_) ?_ ?_
      rotate_left
      ·simp only [putAll,Act.put,zi,zs,zt]
       rfl
      refine one_ (i:=4) (N:=some 8) #[true,true,true,true,true,true,false,false] rfl rfl (one_of HT_.out zK) (by decide) (fun K hK=>?_)
      refine box_step ?hg (N:=8) ?hd (cs:=#[.slice none 0 0,.slice none 0 0]) (t:=29) ?hr ?_;(case hd=>rfl);(case hg=>rfl);(case hr=>first|(go_simp;done)|(go_simp;rfl))
      intro gb776 hg w25 hbox hb
      have BK776:=zA (hbox)
      have GW776:=zA ((zG hg (below_size zB):w.heap.size≤gb776))
      have GE776:=zA ((zG hg (below_size zB):w.heap.size≤gb776))
      have NB760_776:=zA ((zl hg (zk BK760):gb760≠gb776))
      have NB776_760:=zA ((zg hg (zk BK760):gb776≠gb760))
      have NB761_776:=zA ((zl hg (zk BK761):gb761≠gb776))
      have NB776_761:=zA ((zg hg (zk BK761):gb776≠gb761))
      have NB777_776:=zA ((zl hg (zk BK777):gb777≠gb776))
      have NB776_777:=zA ((zg hg (zk BK777):gb776≠gb777))
      replace HO766:=zA (Kd.R_below (zR HO766) hb)
      replace HO769:=zA (Kd.R_below (zR HO769) hb)
      replace HO772:=zA (Kd.R_below (zR HO772) hb)
      replace HO775:=zA (Kd.R_below (zR HO775) hb)
      replace BK760:=zA (zb BK760 hb)
      replace BK761:=zA (zb BK761 hb)
      replace BK777:=zA (zb BK777 hb)
      replace HB:=zA (below_step zB hb)
      clear hb hbox hg
      refine hK.out _ _ ⟨(blk_cell BK760.out 0).trans rfl,(blk_cell BK760.out 1).trans rfl,(blk_cell BK761.out 0).trans rfl,(blk_cell BK761.out 1).trans rfl⟩ (fun hHeld=>?_)
      clear hK K
      refine norm_ (a':=?_) ?_ ?_
      rotate_left
      ·show Act.put _ (some 8) _=_
       simp only [Act.put,zi,zs,zt,i64_w,i32_w]
       rfl
      exact norm_ (by first|(simp only [putAll,Act.put,zi,zs,zt];done)|(simp only [putAll,Act.put,zi,zs,zt];rfl)) (hJ1_3_4_5 (v765,v768,v771,v774,gb776,gb777) _ ⟨hHeld,(zR HO766),(zR HO769),(zR HO772),(zR HO775),(zk BK760),(zk BK761),(zk BK776),(zk BK777),GW776.out,GE776.out,NB760_776.out,NB776_760.out,NB761_776.out,NB776_761.out,NB777_776.out,NB776_777.out,GW777.out,GE777.out,NB760_777.out,NB777_760.out,NB761_777.out,NB777_761.out,zB⟩)
    ·skip
     rintro ⟨v765,v768,v771,v774,gb776⟩ w24 ⟨hS_,h0_,h1_,h2_,h3_,h4_,h5_,h6_,h7_,h8_,h9_,h10_,h11_,h12_,h13_⟩
     have HO766:Aside0 (Kd.R (Kd.int .i64) 3 w24 w.heap.size (fun k_=>some k_≠(v768:Value).ownBlock∧some k_≠(v771:Value).ownBlock∧some k_≠(v774:Value).ownBlock) v765 t764):=⟨h0_⟩
     have HO769:Aside0 (Kd.R (Kd.int .i64) 3 w24 w.heap.size (fun k_=>some k_≠(v765:Value).ownBlock∧some k_≠(v771:Value).ownBlock∧some k_≠(v774:Value).ownBlock) v768 t767):=⟨h1_⟩
     have HO772:Aside0 (Kd.R (Kd.int .i64) 3 w24 w.heap.size (fun k_=>some k_≠(v765:Value).ownBlock∧some k_≠(v768:Value).ownBlock∧some k_≠(v774:Value).ownBlock) v771 t770):=⟨h2_⟩
     have HO775:Aside0 (Kd.R (Kd.int .i64) 3 w24 w.heap.size (fun k_=>some k_≠(v765:Value).ownBlock∧some k_≠(v768:Value).ownBlock∧some k_≠(v771:Value).ownBlock) v774 t773):=⟨h3_⟩
     have BK776:Aside0 (w24.heap[gb776]?=some (.cells #[.slice none 0 0,.slice none 0 0] 29 (0,0))):=⟨h6_⟩
     have GW776:Aside0 (w.heap.size≤gb776):=⟨h7_⟩
     have GE776:Aside0 (w.heap.size≤gb776):=⟨h8_⟩
     have NB760_776:Aside0 (gb760≠gb776):=⟨h9_⟩
     have NB776_760:Aside0 (gb776≠gb760):=⟨h10_⟩
     have NB761_776:Aside0 (gb761≠gb776):=⟨h11_⟩
     have NB776_761:Aside0 (gb776≠gb761):=⟨h12_⟩
     replace BK760:Aside0 (w24.heap[gb760]?=some (.cells #[.slice A0_0 l0_0.length c0_0,.slice A0_1 l0_1.length c0_1] 29 (0,0))):=⟨h4_⟩
     replace BK761:Aside0 (w24.heap[gb761]?=some (.cells #[.slice A1_0 l1_0.length c1_0,.slice A1_1 l1_1.length c1_1] 29 (0,0))):=⟨h5_⟩
     replace HB:Aside0 (Below w.heap.size w w24):=⟨h13_⟩
     clear h0_ h1_ h2_ h3_ h4_ h5_ h6_ h7_ h8_ h9_ h10_ h11_ h12_ h13_
     have hHeld:w24.cell? ⟨gb760,0,none⟩=some (.slice A0_0 l0_0.length c0_0)∧w24.cell? ⟨gb760,1,none⟩=some (.slice A0_1 l0_1.length c0_1)∧w24.cell? ⟨gb761,0,none⟩=some (.slice A1_0 l1_0.length c1_0)∧w24.cell? ⟨gb761,1,none⟩=some (.slice A1_1 l1_1.length c1_1):=hS_
     refine norm_ (a':=?_) ?_ ?_
     rotate_left
     ·simp only [putAll,Act.put,zi,zs,zt]
      rfl
     refine one_ (i:=5) (N:=some 9) #[true,true,true,true,true,true,false,false] rfl rfl (one_of HT_.out zK) (by decide) (fun K hK=>?_)
     refine box_step ?hg (N:=9) ?hd (cs:=#[.slice none 0 0,.slice none 0 0]) (t:=29) ?hr ?_;(case hd=>rfl);(case hg=>rfl);(case hr=>first|(go_simp;done)|(go_simp;rfl))
     intro gb777 hg w25 hbox hb
     have BK777:=zA (hbox)
     have GW777:=zA ((zG hg (below_size zB):w.heap.size≤gb777))
     have GE777:=zA ((zG hg (below_size zB):w.heap.size≤gb777))
     have NB760_777:=zA ((zl hg (zk BK760):gb760≠gb777))
     have NB777_760:=zA ((zg hg (zk BK760):gb777≠gb760))
     have NB761_777:=zA ((zl hg (zk BK761):gb761≠gb777))
     have NB777_761:=zA ((zg hg (zk BK761):gb777≠gb761))
     have NB776_777:=zA ((zl hg (zk BK776):gb776≠gb777))
     have NB777_776:=zA ((zg hg (zk BK776):gb777≠gb776))
     replace HO766:=zA (Kd.R_below (zR HO766) hb)
     replace HO769:=zA (Kd.R_below (zR HO769) hb)
     replace HO772:=zA (Kd.R_below (zR HO772) hb)
     replace HO775:=zA (Kd.R_below (zR HO775) hb)
     replace BK760:=zA (zb BK760 hb)
     replace BK761:=zA (zb BK761 hb)
     replace BK776:=zA (zb BK776 hb)
     replace HB:=zA (below_step zB hb)
     clear hb hbox hg
     refine hK.out _ _ ⟨(blk_cell BK760.out 0).trans rfl,(blk_cell BK760.out 1).trans rfl,(blk_cell BK761.out 0).trans rfl,(blk_cell BK761.out 1).trans rfl⟩ (fun hHeld=>?_)
     clear hK K
     refine norm_ (a':=?_) ?_ ?_
     rotate_left
     ·show Act.put _ (some 9) _=_
      simp only [Act.put,zi,zs,zt,i64_w,i32_w]
      rfl
     exact norm_ (by first|(simp only [putAll,Act.put,zi,zs,zt];done)|(simp only [putAll,Act.put,zi,zs,zt];rfl)) (hJ1_3_4_5 (v765,v768,v771,v774,gb776,gb777) _ ⟨hHeld,(zR HO766),(zR HO769),(zR HO772),(zR HO775),(zk BK760),(zk BK761),(zk BK776),(zk BK777),GW776.out,GE776.out,NB760_776.out,NB776_760.out,NB761_776.out,NB776_761.out,NB777_776.out,NB776_777.out,GW777.out,GE777.out,NB760_777.out,NB777_760.out,NB761_777.out,NB777_761.out,zB⟩)
   rintro ⟨v765,v768,v771,v774,gb776,gb777⟩ w25 ⟨hS_,h0_,h1_,h2_,h3_,h4_,h5_,h6_,h7_,h8_,h9_,h10_,h11_,h12_,h13_,h14_,h15_,h16_,h17_,h18_,h19_,h20_,h21_,h22_⟩
   have HO766:Aside0 (Kd.R (Kd.int .i64) 3 w25 w.heap.size (fun k_=>some k_≠(v768:Value).ownBlock∧some k_≠(v771:Value).ownBlock∧some k_≠(v774:Value).ownBlock) v765 t764):=⟨h0_⟩
   have HO769:Aside0 (Kd.R (Kd.int .i64) 3 w25 w.heap.size (fun k_=>some k_≠(v765:Value).ownBlock∧some k_≠(v771:Value).ownBlock∧some k_≠(v774:Value).ownBlock) v768 t767):=⟨h1_⟩
   have HO772:Aside0 (Kd.R (Kd.int .i64) 3 w25 w.heap.size (fun k_=>some k_≠(v765:Value).ownBlock∧some k_≠(v768:Value).ownBlock∧some k_≠(v774:Value).ownBlock) v771 t770):=⟨h2_⟩
   have HO775:Aside0 (Kd.R (Kd.int .i64) 3 w25 w.heap.size (fun k_=>some k_≠(v765:Value).ownBlock∧some k_≠(v768:Value).ownBlock∧some k_≠(v771:Value).ownBlock) v774 t773):=⟨h3_⟩
   have BK776:Aside0 (w25.heap[gb776]?=some (.cells #[.slice none 0 0,.slice none 0 0] 29 (0,0))):=⟨h6_⟩
   have BK777:Aside0 (w25.heap[gb777]?=some (.cells #[.slice none 0 0,.slice none 0 0] 29 (0,0))):=⟨h7_⟩
   have GW776:Aside0 (w.heap.size≤gb776):=⟨h8_⟩
   have GE776:Aside0 (w.heap.size≤gb776):=⟨h9_⟩
   have NB760_776:Aside0 (gb760≠gb776):=⟨h10_⟩
   have NB776_760:Aside0 (gb776≠gb760):=⟨h11_⟩
   have NB761_776:Aside0 (gb761≠gb776):=⟨h12_⟩
   have NB776_761:Aside0 (gb776≠gb761):=⟨h13_⟩
   have NB777_776:Aside0 (gb777≠gb776):=⟨h14_⟩
   have NB776_777:Aside0 (gb776≠gb777):=⟨h15_⟩
   have GW777:Aside0 (w.heap.size≤gb777):=⟨h16_⟩
   have GE777:Aside0 (w.heap.size≤gb777):=⟨h17_⟩
   have NB760_777:Aside0 (gb760≠gb777):=⟨h18_⟩
   have NB777_760:Aside0 (gb777≠gb760):=⟨h19_⟩
   have NB761_777:Aside0 (gb761≠gb777):=⟨h20_⟩
   have NB777_761:Aside0 (gb777≠gb761):=⟨h21_⟩
   replace BK760:Aside0 (w25.heap[gb760]?=some (.cells #[.slice A0_0 l0_0.length c0_0,.slice A0_1 l0_1.length c0_1] 29 (0,0))):=⟨h4_⟩
   replace BK761:Aside0 (w25.heap[gb761]?=some (.cells #[.slice A1_0 l1_0.length c1_0,.slice A1_1 l1_1.length c1_1] 29 (0,0))):=⟨h5_⟩
   replace HB:Aside0 (Below w.heap.size w w25):=⟨h22_⟩
   clear h0_ h1_ h2_ h3_ h4_ h5_ h6_ h7_ h8_ h9_ h10_ h11_ h12_ h13_ h14_ h15_ h16_ h17_ h18_ h19_ h20_ h21_ h22_
   have hHeld:w25.cell? ⟨gb760,0,none⟩=some (.slice A0_0 l0_0.length c0_0)∧w25.cell? ⟨gb760,1,none⟩=some (.slice A0_1 l0_1.length c0_1)∧w25.cell? ⟨gb761,0,none⟩=some (.slice A1_0 l1_0.length c1_0)∧w25.cell? ⟨gb761,1,none⟩=some (.slice A1_1 l1_1.length c1_1):=hS_
   obtain ⟨Ao26,co26,eo26⟩:=Kd.R_slice HO766.out
   (first|subst eo26|(injection eo26 with f1_ f2_ f3_;have f4_:=f1_.symm;have f5_:=f3_.symm;clear f1_ f2_ f3_;subst f4_;subst f5_))
   obtain ⟨Ao28,co28,eo28⟩:=Kd.R_slice HO769.out
   (first|subst eo28|(injection eo28 with f1_ f2_ f3_;have f4_:=f1_.symm;have f5_:=f3_.symm;clear f1_ f2_ f3_;subst f4_;subst f5_))
   obtain ⟨Ao30,co30,eo30⟩:=Kd.R_slice HO772.out
   (first|subst eo30|(injection eo30 with f1_ f2_ f3_;have f4_:=f1_.symm;have f5_:=f3_.symm;clear f1_ f2_ f3_;subst f4_;subst f5_))
   obtain ⟨Ao32,co32,eo32⟩:=Kd.R_slice HO775.out
   (first|subst eo32|(injection eo32 with f1_ f2_ f3_;have f4_:=f1_.symm;have f5_:=f3_.symm;clear f1_ f2_ f3_;subst f4_;subst f5_))
   refine norm_ (a':=?_) ?_ ?_
   rotate_left
   ·simp only [putAll,Act.put,zi,zs,zt]
    rfl
   refine one_ (i:=6) (N:=none) #[true,true,true,true,true,true,true,false] rfl rfl (one_of HT_.out zK) (by decide) (fun K hK=>?_)
   have hs27:w25.cell? ⟨gb776,0,none⟩=some (.slice none 0 0):=(blk_cell BK776.out 0).trans rfl
   have hfs27:=blk_frozen BK776.out 0
   have hns27_0:=NB760_776.out
   have hns27_1:=NB761_776.out
   have hns27_3:=NB777_776.out
   have hms27_0:=NB776_760.out
   have hms27_1:=NB776_761.out
   have hms27_3:=NB776_777.out
   have hs29:w25.cell? ⟨gb776,1,none⟩=some (.slice none 0 0):=(blk_cell BK776.out 1).trans rfl
   have hfs29:=blk_frozen BK776.out 1
   have hns29_0:=NB760_776.out
   have hns29_1:=NB761_776.out
   have hns29_3:=NB777_776.out
   have hms29_0:=NB776_760.out
   have hms29_1:=NB776_761.out
   have hms29_3:=NB776_777.out
   refine skip_ (w1:=?_) (by rfl) rfl ?_ ?_
   rotate_left
   ·go_simp
    rfl
   refine hK.out _ _ ⟨((cell_far (p:=⟨gb776,_,none⟩) NB760_776.out _).trans (((cell_far (p:=⟨gb776,_,none⟩) NB760_776.out _).trans (hHeld.1)))),((cell_far (p:=⟨gb776,_,none⟩) NB760_776.out _).trans (((cell_far (p:=⟨gb776,_,none⟩) NB760_776.out _).trans (hHeld.2.1)))),((cell_far (p:=⟨gb776,_,none⟩) NB761_776.out _).trans (((cell_far (p:=⟨gb776,_,none⟩) NB761_776.out _).trans (hHeld.2.2.1)))),((cell_far (p:=⟨gb776,_,none⟩) NB761_776.out _).trans (((cell_far (p:=⟨gb776,_,none⟩) NB761_776.out _).trans (hHeld.2.2.2))))⟩ (fun hHeld=>?_)
   clear hK K
   refine one_ (i:=7) (N:=none) #[true,true,true,true,true,true,true,true] rfl rfl (one_of HT_.out zK) (by decide) (fun K hK=>?_)
   have hs31:w25.cell? ⟨gb777,0,none⟩=some (.slice none 0 0):=(blk_cell BK777.out 0).trans rfl
   have hfs31:=blk_frozen BK777.out 0
   have hns31_0:=NB760_777.out
   have hns31_1:=NB761_777.out
   have hns31_2:=NB776_777.out
   have hms31_0:=NB777_760.out
   have hms31_1:=NB777_761.out
   have hms31_2:=NB777_776.out
   have hs33:w25.cell? ⟨gb777,1,none⟩=some (.slice none 0 0):=(blk_cell BK777.out 1).trans rfl
   have hfs33:=blk_frozen BK777.out 1
   have hns33_0:=NB760_777.out
   have hns33_1:=NB761_777.out
   have hns33_2:=NB776_777.out
   have hms33_0:=NB777_760.out
   have hms33_1:=NB777_761.out
   have hms33_2:=NB777_776.out
   refine skip_ (w1:=?_) (by rfl) rfl ?_ ?_
   rotate_left
   ·go_simp
    rfl
   refine hK.out _ _ ⟨((cell_far (p:=⟨gb777,_,none⟩) NB760_777.out _).trans (((cell_far (p:=⟨gb777,_,none⟩) NB760_777.out _).trans (hHeld.1)))),((cell_far (p:=⟨gb777,_,none⟩) NB760_777.out _).trans (((cell_far (p:=⟨gb777,_,none⟩) NB760_777.out _).trans (hHeld.2.1)))),((cell_far (p:=⟨gb777,_,none⟩) NB761_777.out _).trans (((cell_far (p:=⟨gb777,_,none⟩) NB761_777.out _).trans (hHeld.2.2.1)))),((cell_far (p:=⟨gb777,_,none⟩) NB761_777.out _).trans (((cell_far (p:=⟨gb777,_,none⟩) NB761_777.out _).trans (hHeld.2.2.2))))⟩ (fun hHeld=>?_)
   clear hK K
   refine done_ (done_of HT_.out zK) ?_
   go_upto_region 8 with (fail)
   (try simp only [Act.put,zi,zs,zt])
   have H:=HC19.out
   clear HC19
   replace H:=Option.bind_eq_some_iff.mp H
   obtain ⟨t778,A340,H⟩:=H
   replace H:(if t778=true then ((slices_Equal_int_int.f k t767 t773).bind fun t779=>(some (t779,0))) else (some (false,0)))=some (r1,r2):=H
   have A34:=zA A340
   clear A340
   by_cases c35:t778=true
   ·subst c35
    have H1:((slices_Equal_int_int.f k t767 t773).bind fun t779=>(some (t779,0)))=some (r1,r2):=by rw [if_pos rfl] at H;exact H
    clear H
    have H:=H1
    clear H1
    replace H:=Option.bind_eq_some_iff.mp H
    obtain ⟨t779,A360,H⟩:=H
    replace H:(some (t779,0))=some (r1,r2):=H
    have A36:=zA A360
    clear A360
    simp only [Option.some.injEq,Prod.mk.injEq] at H
    obtain ⟨rfl,rfl⟩:=H
    have hnb37:=NB776_760.out
    have hnc37:=NB760_776.out
    have hnb38:=NB776_761.out
    have hnc38:=NB761_776.out
    have hnb39:=NB776_777.out
    have hnc39:=NB777_776.out
    have hcz40_0:w25.cell? ⟨gb776,0,none⟩=some (.slice none 0 0):=(blk_cell BK776.out 0).trans rfl
    have hcz40_1:w25.cell? ⟨gb776,1,none⟩=some (.slice none 0 0):=(blk_cell BK776.out 1).trans rfl
    have hfz40_0:=blk_frozen BK776.out 0
    have hfz40_1:=blk_frozen BK776.out 1
    have hnb41:=NB777_760.out
    have hnc41:=NB760_777.out
    have hnb42:=NB777_761.out
    have hnc42:=NB761_777.out
    have hcz43_0:w25.cell? ⟨gb777,0,none⟩=some (.slice none 0 0):=(blk_cell BK777.out 0).trans rfl
    have hcz43_1:w25.cell? ⟨gb777,1,none⟩=some (.slice none 0 0):=(blk_cell BK777.out 1).trans rfl
    have hfz43_0:=blk_frozen BK777.out 0
    have hfz43_1:=blk_frozen BK777.out 1
    go_wp2_with (first|((with_reducible refine gate_callee (f:=58) rfl ?_);refine goesL_ (some 28) rfl rfl Try.func58 zK rfl #[.slice Ao26 t764.length co26,.slice Ao30 t770.length co30] rfl zM ?_;(with_reducible refine (slices_Equal_int_int.calls k _ _ t764 _ _ t770 true _ ?side1 ?side2 ?side3 ?side4 A34.out).mono ?_);(case side1=>refine (Kd.R_reads' (e:=3) (base:=w.heap.size) (ok:=fun k_=>(some k_≠(.slice Ao28 t767.length co28:Value).ownBlock∧(some k_≠(.slice Ao30 t770.length co30:Value).ownBlock∧some k_≠(.slice Ao32 t773.length co32:Value).ownBlock))) (n:=t764.length) (c:=co26) ?_).2.2;exact (by refine zr ?_;exact (Kd.R_mono (Kd.R_mono (Kd.R_far (p:=⟨gb777,1,none⟩) (Kd.R_far (p:=⟨gb777,0,none⟩) (Kd.R_far (p:=⟨gb776,1,none⟩) (Kd.R_far (p:=⟨gb776,0,none⟩) (Kd.R_types (Kd.R_types HO766.out BK776.out (by decide)) BK777.out (by decide)) (fun _ hk=>hk.1.2) (.slice Ao26 t764.length co26)) (fun _ hk=>hk.1.2) (.slice Ao28 t767.length co28)) (fun _ hk=>hk.2) (.slice Ao30 t770.length co30)) (fun _ hk=>hk.2) (.slice Ao32 t773.length co32)) (fun _ h_=>h_.1)) (fun _ h_=>h_.1))));(case side2=>exact (Kd.R_reads' HO766.out).2.1);(case side3=>refine (Kd.R_reads' (e:=3) (base:=w.heap.size) (ok:=fun k_=>(some k_≠(.slice Ao26 t764.length co26:Value).ownBlock∧(some k_≠(.slice Ao28 t767.length co28:Value).ownBlock∧some k_≠(.slice Ao32 t773.length co32:Value).ownBlock))) (n:=t770.length) (c:=co30) ?_).2.2;exact (by refine zr ?_;exact (Kd.R_mono (Kd.R_mono (Kd.R_far (p:=⟨gb777,1,none⟩) (Kd.R_far (p:=⟨gb777,0,none⟩) (Kd.R_far (p:=⟨gb776,1,none⟩) (Kd.R_far (p:=⟨gb776,0,none⟩) (Kd.R_types (Kd.R_types HO772.out BK776.out (by decide)) BK777.out (by decide)) (fun _ hk=>hk.1.2) (.slice Ao26 t764.length co26)) (fun _ hk=>hk.1.2) (.slice Ao28 t767.length co28)) (fun _ hk=>hk.2) (.slice Ao30 t770.length co30)) (fun _ hk=>hk.2) (.slice Ao32 t773.length co32)) (fun _ h_=>h_.1)) (fun _ h_=>h_.1))));(case side4=>exact (Kd.R_reads' HO772.out).2.1);rintro e w' ⟨rfl,⟨nd,rfl⟩⟩;refine ⟨_,rfl,?_⟩)|(go_at_call 58;(with_reducible refine (slices_Equal_int_int.calls k _ _ t767 _ _ t773 t779 _ ?side1 ?side2 ?side3 ?side4 A36.out).mono ?_);(case side1=>refine (Kd.R_reads' (e:=3) (base:=w.heap.size) (ok:=fun k_=>(some k_≠(.slice Ao26 t764.length co26:Value).ownBlock∧(some k_≠(.slice Ao30 t770.length co30:Value).ownBlock∧some k_≠(.slice Ao32 t773.length co32:Value).ownBlock))) (n:=t767.length) (c:=co28) ?_).2.2;exact (by refine zr ?_;exact (Kd.R_mono (Kd.R_mono (Kd.R_far (p:=⟨gb777,1,none⟩) (Kd.R_far (p:=⟨gb777,0,none⟩) (Kd.R_far (p:=⟨gb776,1,none⟩) (Kd.R_far (p:=⟨gb776,0,none⟩) (Kd.R_types (Kd.R_types HO769.out BK776.out (by decide)) BK777.out (by decide)) (fun _ hk=>hk.1.2) (.slice Ao26 t764.length co26)) (fun _ hk=>hk.1.2) (.slice Ao28 t767.length co28)) (fun _ hk=>hk.2) (.slice Ao30 t770.length co30)) (fun _ hk=>hk.2) (.slice Ao32 t773.length co32)) (fun _ h_=>h_.1)) (fun _ h_=>h_.1))));(case side2=>exact (Kd.R_reads' HO769.out).2.1);(case side3=>refine (Kd.R_reads' (e:=3) (base:=w.heap.size) (ok:=fun k_=>(some k_≠(.slice Ao26 t764.length co26:Value).ownBlock∧(some k_≠(.slice Ao28 t767.length co28:Value).ownBlock∧some k_≠(.slice Ao30 t770.length co30:Value).ownBlock))) (n:=t773.length) (c:=co32) ?_).2.2;exact (by refine zr ?_;exact (Kd.R_mono (Kd.R_mono (Kd.R_far (p:=⟨gb777,1,none⟩) (Kd.R_far (p:=⟨gb777,0,none⟩) (Kd.R_far (p:=⟨gb776,1,none⟩) (Kd.R_far (p:=⟨gb776,0,none⟩) (Kd.R_types (Kd.R_types HO775.out BK776.out (by decide)) BK777.out (by decide)) (fun _ hk=>hk.1.2) (.slice Ao26 t764.length co26)) (fun _ hk=>hk.1.2) (.slice Ao28 t767.length co28)) (fun _ hk=>hk.2) (.slice Ao30 t770.length co30)) (fun _ hk=>hk.2) (.slice Ao32 t773.length co32)) (fun _ h_=>h_.1)) (fun _ h_=>h_.1))));(case side4=>exact (Kd.R_reads' HO775.out).2.1);rintro e w' ⟨rfl,⟨nd,rfl⟩⟩))
    go_ret2
    exact ⟨ze,by repeat (first|(with_reducible first|exact HB.out|apply below_alloc|apply pw_below_drewN|apply below_drew1|refine below_set ?_ GE760.out|refine below_set ?_ GE761.out|refine below_set ?_ GE776.out|refine below_set ?_ GE777.out)|exact HB.out)⟩
   ·replace c35:=Bool.eq_false_iff.mpr c35
    subst c35
    have H1:(some (false,0))=some (r1,r2):=by rw [if_neg (show ¬ (false=true) by decide)] at H;exact H
    clear H
    have H:=H1
    clear H1
    simp only [Option.some.injEq,Prod.mk.injEq] at H
    obtain ⟨rfl,rfl⟩:=H
    have hnb44:=NB776_760.out
    have hnc44:=NB760_776.out
    have hnb45:=NB776_761.out
    have hnc45:=NB761_776.out
    have hnb46:=NB776_777.out
    have hnc46:=NB777_776.out
    have hcz47_0:w25.cell? ⟨gb776,0,none⟩=some (.slice none 0 0):=(blk_cell BK776.out 0).trans rfl
    have hcz47_1:w25.cell? ⟨gb776,1,none⟩=some (.slice none 0 0):=(blk_cell BK776.out 1).trans rfl
    have hfz47_0:=blk_frozen BK776.out 0
    have hfz47_1:=blk_frozen BK776.out 1
    have hnb48:=NB777_760.out
    have hnc48:=NB760_777.out
    have hnb49:=NB777_761.out
    have hnc49:=NB761_777.out
    have hcz50_0:w25.cell? ⟨gb777,0,none⟩=some (.slice none 0 0):=(blk_cell BK777.out 0).trans rfl
    have hcz50_1:w25.cell? ⟨gb777,1,none⟩=some (.slice none 0 0):=(blk_cell BK777.out 1).trans rfl
    have hfz50_0:=blk_frozen BK777.out 0
    have hfz50_1:=blk_frozen BK777.out 1
    go_wp2_with (first|((with_reducible refine gate_callee (f:=58) rfl ?_);refine goesL_ (some 28) rfl rfl Try.func58 zK rfl #[.slice Ao26 t764.length co26,.slice Ao30 t770.length co30] rfl zM ?_;(with_reducible refine (slices_Equal_int_int.calls k _ _ t764 _ _ t770 false _ ?side1 ?side2 ?side3 ?side4 A34.out).mono ?_);(case side1=>refine (Kd.R_reads' (e:=3) (base:=w.heap.size) (ok:=fun k_=>(some k_≠(.slice Ao28 t767.length co28:Value).ownBlock∧(some k_≠(.slice Ao30 t770.length co30:Value).ownBlock∧some k_≠(.slice Ao32 t773.length co32:Value).ownBlock))) (n:=t764.length) (c:=co26) ?_).2.2;exact (by refine zr ?_;exact (Kd.R_mono (Kd.R_mono (Kd.R_far (p:=⟨gb777,1,none⟩) (Kd.R_far (p:=⟨gb777,0,none⟩) (Kd.R_far (p:=⟨gb776,1,none⟩) (Kd.R_far (p:=⟨gb776,0,none⟩) (Kd.R_types (Kd.R_types HO766.out BK776.out (by decide)) BK777.out (by decide)) (fun _ hk=>hk.1.2) (.slice Ao26 t764.length co26)) (fun _ hk=>hk.1.2) (.slice Ao28 t767.length co28)) (fun _ hk=>hk.2) (.slice Ao30 t770.length co30)) (fun _ hk=>hk.2) (.slice Ao32 t773.length co32)) (fun _ h_=>h_.1)) (fun _ h_=>h_.1))));(case side2=>exact (Kd.R_reads' HO766.out).2.1);(case side3=>refine (Kd.R_reads' (e:=3) (base:=w.heap.size) (ok:=fun k_=>(some k_≠(.slice Ao26 t764.length co26:Value).ownBlock∧(some k_≠(.slice Ao28 t767.length co28:Value).ownBlock∧some k_≠(.slice Ao32 t773.length co32:Value).ownBlock))) (n:=t770.length) (c:=co30) ?_).2.2;exact (by refine zr ?_;exact (Kd.R_mono (Kd.R_mono (Kd.R_far (p:=⟨gb777,1,none⟩) (Kd.R_far (p:=⟨gb777,0,none⟩) (Kd.R_far (p:=⟨gb776,1,none⟩) (Kd.R_far (p:=⟨gb776,0,none⟩) (Kd.R_types (Kd.R_types HO772.out BK776.out (by decide)) BK777.out (by decide)) (fun _ hk=>hk.1.2) (.slice Ao26 t764.length co26)) (fun _ hk=>hk.1.2) (.slice Ao28 t767.length co28)) (fun _ hk=>hk.2) (.slice Ao30 t770.length co30)) (fun _ hk=>hk.2) (.slice Ao32 t773.length co32)) (fun _ h_=>h_.1)) (fun _ h_=>h_.1))));(case side4=>exact (Kd.R_reads' HO772.out).2.1);rintro e w' ⟨rfl,⟨nd,rfl⟩⟩;refine ⟨_,rfl,?_⟩))
    go_ret2
    exact ⟨ze,by repeat (first|(with_reducible first|exact HB.out|apply below_alloc|apply pw_below_drewN|apply below_drew1|refine below_set ?_ GE760.out|refine below_set ?_ GE761.out|refine below_set ?_ GE776.out|refine below_set ?_ GE777.out)|exact HB.out)⟩
  ·rw [if_neg c16] at H
   have c16b0:(t763 == 0)=false:=beq_eq_false_iff_ne.mpr c16
   have c16b1:(t763 != 0)=true:=bne_iff_ne.mpr c16
   (first|rw [c16b0]|(simp only [i64_w,i32_w];rw [c16b0])|skip)
   (try rw [c16b1])
   simp only [Option.some.injEq,Prod.mk.injEq] at H
   obtain ⟨rfl,rfl⟩:=H
   go_wp2
   go_ret2
   exact ⟨ze,by repeat (first|(with_reducible first|exact HB.out|apply below_alloc|apply pw_below_drewN|apply below_drew1|refine below_set ?_ GE760.out|refine below_set ?_ GE761.out)|exact HB.out)⟩
 ·rw [if_neg c10] at H
  have c10b0:(t762 == 0)=false:=beq_eq_false_iff_ne.mpr c10
  have c10b1:(t762 != 0)=true:=bne_iff_ne.mpr c10
  (first|rw [c10b0]|(simp only [i64_w,i32_w];rw [c10b0])|skip)
  (try rw [c10b1])
  simp only [Option.some.injEq,Prod.mk.injEq] at H
  obtain ⟨rfl,rfl⟩:=H
  go_wp2
  go_ret2
  exact ⟨ze,by repeat (first|(with_reducible first|exact HB.out|apply below_alloc|apply pw_below_drewN|apply below_drew1|refine below_set ?_ GE760.out|refine below_set ?_ GE761.out)|exact HB.out)⟩
end Go.Proofs.Ythcfmdkhkikbcaa.T
