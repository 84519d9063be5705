import Derived.Test.YthcfmdkhkikbcaaT0
import Derived.Test.YthcfmdkhkikbcaaT2
import Derived.Test.YthcfmdkhkikbcaaT14
namespace Go.Proofs.Ythcfmdkhkikbcaa.T
open Go.RowKit Go.Proofs.YthcfmdkhkikbcaaW.PrintWords Go.Proofs.YthcfmdkhkikbcaaW.PrintLast Go.Proofs.YthcfmdkhkikbcaaW.PrintMore
attribute [local go_sem] max2_int min2_int max_two min_two max_three min_three max_four min_four
set_option linter.unusedVariables false
set_option linter.unusedSimpArgs false
def ancepsref38_Same.f (k:Nat) (l0_0:List Int) (l0_1:List Int) (l1_0:List Int) (l1_1:List Int):Option (Bool×Int):=(ancepsref38_Vital.f k l0_0 l0_1).bind fun bt782=>(if bt782.2.2=0 then ((ancepsref38_Vital.f k l1_0 l1_1).bind fun bt790=>(if bt790.2.2=0 then ((ancepsref38_Equal.f k bt782.1 bt782.2.1 bt790.1 bt790.2.1).bind fun t798=>(some (t798,0))) else (some (false,bt790.2.2)))) else (some (false,bt782.2.2)))
theorem ancepsref38_Same.mono:∀ a0 a1 a2 a3 k,LeO (ancepsref38_Same.f k a0 a1 a2 a3) (ancepsref38_Same.f (k+1) a0 a1 a2 a3):=by
 intro a0 a1 a2 a3 k
 unfold ancepsref38_Same.f
 repeat' first
   | (with_reducible exact ancepsref38_Equal.mono _ _ _ _ _)
   | (with_reducible exact ancepsref38_Vital.mono _ _ _)
   | (with_reducible exact LeO.refl _)
   | (with_reducible exact LeO.none _)
   | (with_reducible refine LeO.ite ?_ ?_)
   | (with_reducible refine LeO.bind ?_ (fun _=>?_))
   | exact LeO.none _
   | refine LeO.ite ?_ ?_
   | refine LeO.bind ?_ (fun _=>?_)
set_option maxHeartbeats 8000000 in
set_option maxRecDepth 100000 in
theorem ancepsref38_Same.calls (k:Nat) (A0_0:Option Addr) (c0_0:Nat) (l0_0:List Int) (A0_1:Option Addr) (c0_1:Nat) (l0_1:List Int) (A1_0:Option Addr) (c1_0:Nat) (l1_0:List Int) (A1_1:Option Addr) (c1_1:Nat) (l1_1:List Int) (r1:Bool) (r2:Int) (w:World) (hr0_0:Kd.C (Kd.int .i64) w A0_0 l0_0.length l0_0) (hc0_0:l0_0.length≤c0_0) (hr0_1:Kd.C (Kd.int .i64) w A0_1 l0_1.length l0_1) (hc0_1:l0_1.length≤c0_1) (hr1_0:Kd.C (Kd.int .i64) w A1_0 l1_0.length l1_0) (hc1_0:l1_0.length≤c1_0) (hr1_1:Kd.C (Kd.int .i64) w A1_1 l1_1.length l1_1) (hc1_1:l1_1.length≤c1_1) (h:ancepsref38_Same.f k l0_0 l0_1 l1_0 l1_1=some (r1,r2)) :
  Calls Try.prog 34 #[.agg #[.slice A0_0 l0_0.length c0_0,.slice A0_1 l0_1.length c0_1],.agg #[.slice A1_0 l1_0.length c1_0,.slice A1_1 l1_1.length c1_1]] w fun e w'=>e=.returned (.tuple #[.bool r1,.int .i64 r2])∧Below w.heap.size w w':=by
 have hu29:=Try.underlying29
 have HR0_0:=zA hr0_0
 have HC0_0:=zA hc0_0
 clear hr0_0 hc0_0
 have HR0_1:=zA hr0_1
 have HC0_1:=zA hc0_1
 clear hr0_1 hc0_1
 have HR1_0:=zA hr1_0
 have HC1_0:=zA hc1_0
 clear hr1_0 hc1_0
 have HR1_1:=zA hr1_1
 have HC1_1:=zA hc1_1
 clear hr1_1 hc1_1
 have HB:=zA (Below.refl w.heap.size w)
 have H:((ancepsref38_Vital.f k l0_0 l0_1).bind fun bt782=>(if bt782.2.2=0 then ((ancepsref38_Vital.f k l1_0 l1_1).bind fun bt790=>(if bt790.2.2=0 then ((ancepsref38_Equal.f k bt782.1 bt782.2.1 bt790.1 bt790.2.1).bind fun t798=>(some (t798,0))) else (some (false,bt790.2.2)))) else (some (false,bt782.2.2))))=some (r1,r2):=h
 clear h
 replace H:=Option.bind_eq_some_iff.mp H
 obtain ⟨⟨t782,t785,t788⟩,A30,H⟩:=H
 replace H:(if t788=0 then ((ancepsref38_Vital.f k l1_0 l1_1).bind fun bt790=>(if bt790.2.2=0 then ((ancepsref38_Equal.f k t782 t785 bt790.1 bt790.2.1).bind fun t798=>(some (t798,0))) else (some (false,bt790.2.2)))) else (some (false,t788)))=some (r1,r2):=H
 have A3:=zA A30
 clear A30
 have HC4:=zA H
 clear H
 go_enter Try.func34,Try.ntmps34
 go_upto_if 15 with (first|((with_reducible refine gate_dst (N:=2) rfl ?_);refine box_event ?hg (N:=2) ?hd (cs:=#[.slice A0_0 l0_0.length c0_0,.slice A0_1 l0_1.length c0_1]) (t:=29) ?hr ?_;(case hd=>rfl);(case hg=>rfl);(case hr=>first|(go_simp;done)|(go_simp;rfl));intro gb780 hg w5 hbox hb;have BK780:=zA (hbox);have GW780:=zA (zG hg (below_size zB):w.heap.size≤gb780);have GE780:=GW780;replace HB:=zA (below_step zB hb);clear hb hbox hg)|((with_reducible refine gate_dst (N:=3) rfl ?_);refine box_event ?hg (N:=3) ?hd (cs:=#[.slice A1_0 l1_0.length c1_0,.slice A1_1 l1_1.length c1_1]) (t:=29) ?hr ?_;(case hd=>rfl);(case hg=>rfl);(case hr=>first|(go_simp;done)|(go_simp;rfl));intro gb781 hg w6 hbox hb;have BK781:=zA (hbox);have GW781:=zA (zG hg (below_size zB):w.heap.size≤gb781);have GE781:=GW781;have NB780_781:=zA ((zl hg (zk BK780):gb780≠gb781));have NB781_780:=zA ((zg hg (zk BK780):gb781≠gb780));replace BK780:=zA (zb BK780 hb);replace HB:=zA (below_step zB hb);clear hb hbox hg;have hnb7:=NB780_781.out;have hnc7:=NB781_780.out;have hcz8_0:w6.cell? ⟨gb780,0,none⟩=some (.slice A0_0 l0_0.length c0_0):=(blk_cell BK780.out 0).trans rfl;have hcz8_1:w6.cell? ⟨gb780,1,none⟩=some (.slice A0_1 l0_1.length c0_1):=(blk_cell BK780.out 1).trans rfl;have hfz8_0:=blk_frozen BK780.out 0;have hfz8_1:=blk_frozen BK780.out 1)|((with_reducible refine gate_callee (f:=24) rfl ?_);refine goesL_ (some 11) rfl rfl Try.func24 zK rfl #[.agg #[.slice A0_0 l0_0.length c0_0,.slice A0_1 l0_1.length c0_1]] rfl zM ?_;(with_reducible refine (ancepsref38_Vital.calls k _ _ l0_0 _ _ l0_1 t782 t785 t788 _ ?side1 ?side2 ?side3 ?side4 A3.out).mono ?_);(case side1=>exact zC (Kd.C_below HR0_0.out HB.out));(case side2=>exact HC0_0.out);(case side3=>exact zC (Kd.C_below HR0_1.out HB.out));(case side4=>exact HC0_1.out);rintro e w9 ⟨v783,v786,rfl,ho0,ho1,hb⟩;refine ⟨_,rfl,?_⟩;have HO784:=zA (Kd.R_lower ho0 (below_size zB));have HO787:=zA (Kd.R_lower ho1 (below_size zB));replace BK780:=zA (zb BK780 hb);replace BK781:=zA (zb BK781 hb);replace HB:=zA (below_step zB hb);(try clear hb);(try clear hb2);(try clear hk);(try clear hi);(try clear ho0);(try clear ho1))|((with_reducible refine gate_dst (N:=6) rfl ?_);refine box_event ?hg (N:=6) ?hd (cs:=#[.slice none 0 0,.slice none 0 0]) (t:=29) ?hr ?_;(case hd=>rfl);(case hg=>rfl);(case hr=>first|(go_simp;done)|(go_simp;rfl));intro gb789 hg w10 hbox hb;have BK789:=zA (hbox);have GW789:=zA (zG hg (below_size zB):w.heap.size≤gb789);have GE789:=GW789;have NB780_789:=zA ((zl hg (zk BK780):gb780≠gb789));have NB789_780:=zA ((zg hg (zk BK780):gb789≠gb780));have NB781_789:=zA ((zl hg (zk BK781):gb781≠gb789));have NB789_781:=zA ((zg hg (zk BK781):gb789≠gb781));replace HO784:=zA (Kd.R_below (zR HO784) hb);replace HO787:=zA (Kd.R_below (zR HO787) hb);replace BK780:=zA (zb BK780 hb);replace BK781:=zA (zb BK781 hb);replace HB:=zA (below_step zB hb);clear hb hbox hg;obtain ⟨Ao11,co11,eo11⟩:=Kd.R_slice HO784.out;subst eo11;have hnb12:=NB789_780.out;have hnc12:=NB780_789.out;have hnb13:=NB789_781.out;have hnc13:=NB781_789.out;have hcz14_0:w10.cell? ⟨gb789,0,none⟩=some (.slice none 0 0):=(blk_cell BK789.out 0).trans rfl;have hcz14_1:w10.cell? ⟨gb789,1,none⟩=some (.slice none 0 0):=(blk_cell BK789.out 1).trans rfl;have hfz14_0:=blk_frozen BK789.out 0;have hfz14_1:=blk_frozen BK789.out 1;obtain ⟨Ao15,co15,eo15⟩:=Kd.R_slice HO787.out;subst eo15))
 (try simp only [Act.put,zi,zs,zt])
 have H:=HC4.out
 clear HC4
 by_cases c16:t788=0
 ·rw [if_pos c16] at H
  have c16b0:(t788 == 0)=true:=beq_iff_eq.mpr c16
  have c16b1:(t788 != 0)=false:=bne_eq_false_iff_eq.mpr c16
  clear c16
  (first|rw [c16b0]|(simp only [i64_w,i32_w];rw [c16b0])|skip)
  (try rw [c16b1])
  replace H:=Option.bind_eq_some_iff.mp H
  obtain ⟨⟨t790,t793,t796⟩,A170,H⟩:=H
  replace H:(if t796=0 then ((ancepsref38_Equal.f k t782 t785 t790 t793).bind fun t798=>(some (t798,0))) else (some (false,t796)))=some (r1,r2):=H
  have A17:=zA A170
  clear A170
  have HC18:=zA H
  clear H
  have hnb19:=NB781_780.out
  have hnc19:=NB780_781.out
  have hnb20:=NB781_789.out
  have hnc20:=NB789_781.out
  have hcz21_0:w10.cell? ⟨gb781,0,none⟩=some (.slice A1_0 l1_0.length c1_0):=(blk_cell BK781.out 0).trans rfl
  have hcz21_1:w10.cell? ⟨gb781,1,none⟩=some (.slice A1_1 l1_1.length c1_1):=(blk_cell BK781.out 1).trans rfl
  have hfz21_0:=blk_frozen BK781.out 0
  have hfz21_1:=blk_frozen BK781.out 1
  go_upto_if 23 with (first|((with_reducible refine gate_callee (f:=24) rfl ?_);refine goesL_ (some 19) rfl rfl Try.func24 zK rfl #[.agg #[.slice A1_0 l1_0.length c1_0,.slice A1_1 l1_1.length c1_1]] rfl zM ?_;(with_reducible refine (ancepsref38_Vital.calls k _ _ l1_0 _ _ l1_1 t790 t793 t796 _ ?side1 ?side2 ?side3 ?side4 A17.out).mono ?_);(case side1=>exact Kd.C_below HR1_0.out zB);(case side2=>exact HC1_0.out);(case side3=>exact Kd.C_below HR1_1.out zB);(case side4=>exact HC1_1.out);rintro e w22 ⟨v791,v794,rfl,ho0,ho1,hb⟩;refine ⟨_,rfl,?_⟩;have HO792:=zA (Kd.R_lower (Kd.R_new' (Kd.R_new' ho0 (Kd.R_lt (by refine zr ?_;exact (Kd.R_mono (Kd.R_far (p:=⟨gb789,1,none⟩) (Kd.R_far (p:=⟨gb789,0,none⟩) (Kd.R_types HO784.out BK789.out (by decide)) (fun _ hk=>hk.2) (.slice Ao11 t782.length co11)) (fun _ hk=>hk.2) (.slice Ao15 t785.length co15)) (fun _ h_=>h_.1))))) (Kd.R_lt (by refine zr ?_;exact (Kd.R_mono (Kd.R_far (p:=⟨gb789,1,none⟩) (Kd.R_far (p:=⟨gb789,0,none⟩) (Kd.R_types HO787.out BK789.out (by decide)) (fun _ hk=>hk.2) (.slice Ao11 t782.length co11)) (fun _ hk=>hk.2) (.slice Ao15 t785.length co15)) (fun _ h_=>h_.1))))) (below_size zB));have HO795:=zA (Kd.R_lower (Kd.R_new' (Kd.R_new' ho1 (Kd.R_lt (by refine zr ?_;exact (Kd.R_mono (Kd.R_far (p:=⟨gb789,1,none⟩) (Kd.R_far (p:=⟨gb789,0,none⟩) (Kd.R_types HO784.out BK789.out (by decide)) (fun _ hk=>hk.2) (.slice Ao11 t782.length co11)) (fun _ hk=>hk.2) (.slice Ao15 t785.length co15)) (fun _ h_=>h_.1))))) (Kd.R_lt (by refine zr ?_;exact (Kd.R_mono (Kd.R_far (p:=⟨gb789,1,none⟩) (Kd.R_far (p:=⟨gb789,0,none⟩) (Kd.R_types HO787.out BK789.out (by decide)) (fun _ hk=>hk.2) (.slice Ao11 t782.length co11)) (fun _ hk=>hk.2) (.slice Ao15 t785.length co15)) (fun _ h_=>h_.1))))) (below_size zB));replace HO784:=zA (Kd.R_mono (Kd.R_told (Kd.R_told (Kd.R_old (by refine zr ?_;exact (Kd.R_mono (Kd.R_far (p:=⟨gb789,1,none⟩) (Kd.R_far (p:=⟨gb789,0,none⟩) (Kd.R_types HO784.out BK789.out (by decide)) (fun _ hk=>hk.2) (.slice Ao11 t782.length co11)) (fun _ hk=>hk.2) (.slice Ao15 t785.length co15)) (fun _ h_=>h_.1))) hb) (Kd.R_base ho0)) (Kd.R_base ho1)) (fun _ h_=>h_.1));replace HO787:=zA (Kd.R_mono (Kd.R_told (Kd.R_told (Kd.R_old (by refine zr ?_;exact (Kd.R_mono (Kd.R_far (p:=⟨gb789,1,none⟩) (Kd.R_far (p:=⟨gb789,0,none⟩) (Kd.R_types HO787.out BK789.out (by decide)) (fun _ hk=>hk.2) (.slice Ao11 t782.length co11)) (fun _ hk=>hk.2) (.slice Ao15 t785.length co15)) (fun _ h_=>h_.1))) hb) (Kd.R_base ho0)) (Kd.R_base ho1)) (fun _ h_=>h_.1));replace BK780:=zA (blk_below (g:=gb780) (o:=.cells #[.slice A0_0 l0_0.length c0_0,.slice A0_1 l0_1.length c0_1] 29 (0,0)) (by refine zj ?_;refine blk_far ?_ NB780_789.out _;refine zj ?_;refine blk_far ?_ NB780_789.out _;refine zj ?_;exact BK780.out) hb);replace BK781:=zA (blk_below (g:=gb781) (o:=.cells #[.slice A1_0 l1_0.length c1_0,.slice A1_1 l1_1.length c1_1] 29 (0,0)) (by refine zj ?_;refine blk_far ?_ NB781_789.out _;refine zj ?_;refine blk_far ?_ NB781_789.out _;refine zj ?_;exact BK781.out) hb);replace BK789:=zA (blk_below (g:=gb789) (o:=.cells #[.slice Ao11 t782.length co11,.slice Ao15 t785.length co15] 29 (0,0)) (by refine zj ?_;refine blk_put (cs:=#[.slice Ao11 t782.length co11,.slice none 0 0]) ?_ 1 _ rfl;refine zj ?_;refine blk_put (cs:=#[.slice none 0 0,.slice none 0 0]) ?_ 0 _ rfl;refine zj ?_;exact BK789.out) hb);replace HB:=zA (below_step zB hb);(try clear hb);(try clear hb2);(try clear hk);(try clear hi);(try clear ho0);(try clear ho1))|((with_reducible refine gate_dst (N:=8) rfl ?_);refine box_event ?hg (N:=8) ?hd (cs:=#[.slice none 0 0,.slice none 0 0]) (t:=29) ?hr ?_;(case hd=>rfl);(case hg=>rfl);(case hr=>first|(go_simp;done)|(go_simp;rfl));intro gb797 hg w23 hbox hb;have BK797:=zA (hbox);have GW797:=zA (zG hg (below_size zB):w.heap.size≤gb797);have GE797:=GW797;have NB780_797:=zA ((zl hg (zk BK780):gb780≠gb797));have NB797_780:=zA ((zg hg (zk BK780):gb797≠gb780));have NB781_797:=zA ((zl hg (zk BK781):gb781≠gb797));have NB797_781:=zA ((zg hg (zk BK781):gb797≠gb781));have NB789_797:=zA ((zl hg (zk BK789):gb789≠gb797));have NB797_789:=zA ((zg hg (zk BK789):gb797≠gb789));replace HO784:=zA (Kd.R_below (zR HO784) hb);replace HO787:=zA (Kd.R_below (zR HO787) hb);replace HO792:=zA (Kd.R_below (zR HO792) hb);replace HO795:=zA (Kd.R_below (zR HO795) hb);replace BK780:=zA (zb BK780 hb);replace BK781:=zA (zb BK781 hb);replace BK789:=zA (zb BK789 hb);replace HB:=zA (below_step zB hb);clear hb hbox hg;obtain ⟨Ao24,co24,eo24⟩:=Kd.R_slice HO792.out;subst eo24;have hnb25:=NB797_780.out;have hnc25:=NB780_797.out;have hnb26:=NB797_781.out;have hnc26:=NB781_797.out;have hnb27:=NB797_789.out;have hnc27:=NB789_797.out;have hcz28_0:w23.cell? ⟨gb797,0,none⟩=some (.slice none 0 0):=(blk_cell BK797.out 0).trans rfl;have hcz28_1:w23.cell? ⟨gb797,1,none⟩=some (.slice none 0 0):=(blk_cell BK797.out 1).trans rfl;have hfz28_0:=blk_frozen BK797.out 0;have hfz28_1:=blk_frozen BK797.out 1;obtain ⟨Ao29,co29,eo29⟩:=Kd.R_slice HO795.out;subst eo29))
  (try simp only [Act.put,zi,zs,zt])
  have H:=HC18.out
  clear HC18
  by_cases c30:t796=0
  ·rw [if_pos c30] at H
   have c30b0:(t796 == 0)=true:=beq_iff_eq.mpr c30
   have c30b1:(t796 != 0)=false:=bne_eq_false_iff_eq.mpr c30
   clear c30
   (first|rw [c30b0]|(simp only [i64_w,i32_w];rw [c30b0])|skip)
   (try rw [c30b1])
   replace H:=Option.bind_eq_some_iff.mp H
   obtain ⟨t798,A310,H⟩:=H
   replace H:(some (t798,0))=some (r1,r2):=H
   have A31:=zA A310
   clear A310
   simp only [Option.some.injEq,Prod.mk.injEq] at H
   obtain ⟨rfl,rfl⟩:=H
   have hnb32:=NB789_780.out
   have hnc32:=NB780_789.out
   have hnb33:=NB789_781.out
   have hnc33:=NB781_789.out
   have hnb34:=NB789_797.out
   have hnc34:=NB797_789.out
   have hcz35_0:w23.cell? ⟨gb789,0,none⟩=some (.slice Ao11 t782.length co11):=(blk_cell BK789.out 0).trans rfl
   have hcz35_1:w23.cell? ⟨gb789,1,none⟩=some (.slice Ao15 t785.length co15):=(blk_cell BK789.out 1).trans rfl
   have hfz35_0:=blk_frozen BK789.out 0
   have hfz35_1:=blk_frozen BK789.out 1
   have hnb36:=NB797_780.out
   have hnc36:=NB780_797.out
   have hnb37:=NB797_781.out
   have hnc37:=NB781_797.out
   have hcz38_0:w23.cell? ⟨gb797,0,none⟩=some (.slice none 0 0):=(blk_cell BK797.out 0).trans rfl
   have hcz38_1:w23.cell? ⟨gb797,1,none⟩=some (.slice none 0 0):=(blk_cell BK797.out 1).trans rfl
   have hfz38_0:=blk_frozen BK797.out 0
   have hfz38_1:=blk_frozen BK797.out 1
   go_wp2_with (first|((with_reducible refine gate_callee (f:=18) rfl ?_);refine goesL_ (some 27) rfl rfl Try.func18 zK rfl #[.agg #[.slice Ao11 t782.length co11,.slice Ao15 t785.length co15],.agg #[.slice Ao24 t790.length co24,.slice Ao29 t793.length co29]] rfl zM ?_;(with_reducible refine (ancepsref38_Equal.calls k _ _ t782 _ _ t785 _ _ t790 _ _ t793 t798 _ ?side1 ?side2 ?side3 ?side4 ?side5 ?side6 ?side7 ?side8 A31.out).mono ?_);(case side1=>refine (Kd.R_reads' (e:=3) (base:=w.heap.size) (ok:=fun k_=>((some k_≠(.slice Ao15 t785.length co15:Value).ownBlock∧some k_≠(.slice Ao24 t790.length co24:Value).ownBlock)∧some k_≠(.slice Ao29 t793.length co29:Value).ownBlock)) (n:=t782.length) (c:=co11) ?_).2.2;exact (by refine zr ?_;exact (Kd.R_mono (Kd.R_far (p:=⟨gb797,1,none⟩) (Kd.R_far (p:=⟨gb797,0,none⟩) (Kd.R_types HO784.out BK797.out (by decide)) (fun _ hk=>hk.2) (.slice Ao24 t790.length co24)) (fun _ hk=>hk.2) (.slice Ao29 t793.length co29)) (fun _ h_=>h_.1))));(case side2=>exact (Kd.R_reads' HO784.out).2.1);(case side3=>refine (Kd.R_reads' (e:=3) (base:=w.heap.size) (ok:=fun k_=>((some k_≠(.slice Ao11 t782.length co11:Value).ownBlock∧some k_≠(.slice Ao24 t790.length co24:Value).ownBlock)∧some k_≠(.slice Ao29 t793.length co29:Value).ownBlock)) (n:=t785.length) (c:=co15) ?_).2.2;exact (by refine zr ?_;exact (Kd.R_mono (Kd.R_far (p:=⟨gb797,1,none⟩) (Kd.R_far (p:=⟨gb797,0,none⟩) (Kd.R_types HO787.out BK797.out (by decide)) (fun _ hk=>hk.2) (.slice Ao24 t790.length co24)) (fun _ hk=>hk.2) (.slice Ao29 t793.length co29)) (fun _ h_=>h_.1))));(case side4=>exact (Kd.R_reads' HO787.out).2.1);(case side5=>refine (Kd.R_reads' (e:=3) (base:=w.heap.size) (ok:=fun k_=>((some k_≠(.slice Ao29 t793.length co29:Value).ownBlock∧some k_≠(.slice Ao11 t782.length co11:Value).ownBlock)∧some k_≠(.slice Ao15 t785.length co15:Value).ownBlock)) (n:=t790.length) (c:=co24) ?_).2.2;exact (by refine zr ?_;exact (Kd.R_mono (Kd.R_far (p:=⟨gb797,1,none⟩) (Kd.R_far (p:=⟨gb797,0,none⟩) (Kd.R_types HO792.out BK797.out (by decide)) (fun _ hk=>hk.2) (.slice Ao24 t790.length co24)) (fun _ hk=>hk.2) (.slice Ao29 t793.length co29)) (fun _ h_=>h_.1))));(case side6=>exact (Kd.R_reads' HO792.out).2.1);(case side7=>refine (Kd.R_reads' (e:=3) (base:=w.heap.size) (ok:=fun k_=>((some k_≠(.slice Ao24 t790.length co24:Value).ownBlock∧some k_≠(.slice Ao11 t782.length co11:Value).ownBlock)∧some k_≠(.slice Ao15 t785.length co15:Value).ownBlock)) (n:=t793.length) (c:=co29) ?_).2.2;exact (by refine zr ?_;exact (Kd.R_mono (Kd.R_far (p:=⟨gb797,1,none⟩) (Kd.R_far (p:=⟨gb797,0,none⟩) (Kd.R_types HO795.out BK797.out (by decide)) (fun _ hk=>hk.2) (.slice Ao24 t790.length co24)) (fun _ hk=>hk.2) (.slice Ao29 t793.length co29)) (fun _ h_=>h_.1))));(case side8=>exact (Kd.R_reads' HO795.out).2.1);rintro e w39 ⟨rfl,hb⟩;refine ⟨_,rfl,?_⟩;replace HO784:=zA (Kd.R_below (by refine zr ?_;exact (Kd.R_mono (Kd.R_far (p:=⟨gb797,1,none⟩) (Kd.R_far (p:=⟨gb797,0,none⟩) (Kd.R_types HO784.out BK797.out (by decide)) (fun _ hk=>hk.2) (.slice Ao24 t790.length co24)) (fun _ hk=>hk.2) (.slice Ao29 t793.length co29)) (fun _ h_=>h_.1))) hb);replace HO787:=zA (Kd.R_below (by refine zr ?_;exact (Kd.R_mono (Kd.R_far (p:=⟨gb797,1,none⟩) (Kd.R_far (p:=⟨gb797,0,none⟩) (Kd.R_types HO787.out BK797.out (by decide)) (fun _ hk=>hk.2) (.slice Ao24 t790.length co24)) (fun _ hk=>hk.2) (.slice Ao29 t793.length co29)) (fun _ h_=>h_.1))) hb);replace HO792:=zA (Kd.R_below (by refine zr ?_;exact (Kd.R_mono (Kd.R_far (p:=⟨gb797,1,none⟩) (Kd.R_far (p:=⟨gb797,0,none⟩) (Kd.R_types HO792.out BK797.out (by decide)) (fun _ hk=>hk.2) (.slice Ao24 t790.length co24)) (fun _ hk=>hk.2) (.slice Ao29 t793.length co29)) (fun _ h_=>h_.1))) hb);replace HO795:=zA (Kd.R_below (by refine zr ?_;exact (Kd.R_mono (Kd.R_far (p:=⟨gb797,1,none⟩) (Kd.R_far (p:=⟨gb797,0,none⟩) (Kd.R_types HO795.out BK797.out (by decide)) (fun _ hk=>hk.2) (.slice Ao24 t790.length co24)) (fun _ hk=>hk.2) (.slice Ao29 t793.length co29)) (fun _ h_=>h_.1))) hb);replace BK780:=zA (blk_below (g:=gb780) (o:=.cells #[.slice A0_0 l0_0.length c0_0,.slice A0_1 l0_1.length c0_1] 29 (0,0)) (by refine zj ?_;refine blk_far ?_ NB780_797.out _;refine zj ?_;refine blk_far ?_ NB780_797.out _;refine zj ?_;exact BK780.out) hb);replace BK781:=zA (blk_below (g:=gb781) (o:=.cells #[.slice A1_0 l1_0.length c1_0,.slice A1_1 l1_1.length c1_1] 29 (0,0)) (by refine zj ?_;refine blk_far ?_ NB781_797.out _;refine zj ?_;refine blk_far ?_ NB781_797.out _;refine zj ?_;exact BK781.out) hb);replace BK789:=zA (blk_below (g:=gb789) (o:=.cells #[.slice Ao11 t782.length co11,.slice Ao15 t785.length co15] 29 (0,0)) (by refine zj ?_;refine blk_far ?_ NB789_797.out _;refine zj ?_;refine blk_far ?_ NB789_797.out _;refine zj ?_;exact BK789.out) hb);replace BK797:=zA (blk_below (g:=gb797) (o:=.cells #[.slice Ao24 t790.length co24,.slice Ao29 t793.length co29] 29 (0,0)) (by refine zj ?_;refine blk_put (cs:=#[.slice Ao24 t790.length co24,.slice none 0 0]) ?_ 1 _ rfl;refine zj ?_;refine blk_put (cs:=#[.slice none 0 0,.slice none 0 0]) ?_ 0 _ rfl;refine zj ?_;exact BK797.out) hb);replace HB:=zA (below_step zB hb);(try clear hb);(try clear hb2);(try clear hk);(try clear hi)))
   go_ret2
   exact ⟨ze,by repeat (first|(with_reducible first|exact HB.out|apply below_alloc|apply pw_below_drewN|apply below_drew1|refine below_set ?_ GE780.out|refine below_set ?_ GE781.out|refine below_set ?_ GE789.out|refine below_set ?_ GE797.out)|exact HB.out)⟩
  ·rw [if_neg c30] at H
   have c30b0:(t796 == 0)=false:=beq_eq_false_iff_ne.mpr c30
   have c30b1:(t796 != 0)=true:=bne_iff_ne.mpr c30
   (first|rw [c30b0]|(simp only [i64_w,i32_w];rw [c30b0])|skip)
   (try rw [c30b1])
   simp only [Option.some.injEq,Prod.mk.injEq] at H
   obtain ⟨rfl,rfl⟩:=H
   go_wp2
   go_ret2
   exact ⟨ze,by repeat (first|(with_reducible first|exact HB.out|apply below_alloc|apply pw_below_drewN|apply below_drew1|refine below_set ?_ GE780.out|refine below_set ?_ GE781.out|refine below_set ?_ GE789.out|refine below_set ?_ GE797.out)|exact HB.out)⟩
 ·rw [if_neg c16] at H
  have c16b0:(t788 == 0)=false:=beq_eq_false_iff_ne.mpr c16
  have c16b1:(t788 != 0)=true:=bne_iff_ne.mpr c16
  (first|rw [c16b0]|(simp only [i64_w,i32_w];rw [c16b0])|skip)
  (try rw [c16b1])
  simp only [Option.some.injEq,Prod.mk.injEq] at H
  obtain ⟨rfl,rfl⟩:=H
  go_wp2
  go_ret2
  exact ⟨ze,by repeat (first|(with_reducible first|exact HB.out|apply below_alloc|apply pw_below_drewN|apply below_drew1|refine below_set ?_ GE780.out|refine below_set ?_ GE781.out|refine below_set ?_ GE789.out)|exact HB.out)⟩
end Go.Proofs.Ythcfmdkhkikbcaa.T
