import Derived.Test.YtkjghablbeaioaaG0
import Derived.Test.YtkjghablbeaioaaG4
import Derived.Test.YtkjghablbeaioaaG5
import Derived.Test.YtkjghablbeaioaaG6
namespace Go.Proofs.Ytkjghablbeaioaa.G
open Go.RowKit Go.Proofs.YtkjghablbeaioaaW.PrintWords Go.Proofs.YtkjghablbeaioaaW.PrintLast Go.Proofs.YtkjghablbeaioaaW.PrintMore
attribute [local go_sem] max2_int min2_int max_two min_two max_three min_three max_four min_four
set_option linter.unusedVariables false
set_option linter.unusedSimpArgs false
section
open Go.Lib Go.Sort Go.Shelf Kd
/-- What is written behind a row's elements leaves the row. -/
theorem own_behind {e base size n cap g:Nat} {w:World} {xs vs:List Value} (h:w.ownsRow base e size (.slice (some ⟨g,0,none⟩) n cap) n xs) (o:Nat) (ho:n * size≤o) (hv:o+vs.length≤cap * size):(w.setCells g o vs).ownsRow base e size (.slice (some ⟨g,0,none⟩) n cap) n xs:=by
 refine ⟨h.1,?_⟩
 rcases h.2 with ⟨h2,_⟩|⟨g',cap',cur,h1,h2,h3,h4,h5,h6,h7⟩
 ·cases h2
 ·injection h1 with h1 _ h1c
  injection h1 with h1
  injection h1 with h1
  subst h1 h1c
  obtain ⟨cur',k1,k2,k3⟩:=setCells_row vs o w cur h3 (by omega)
  refine .inr ⟨g,cap,cur',rfl,h2,k1,h4,h5,by rw [k2];exact h6,?_⟩
  rw [k3,List.append_assoc,List.take_append_of_le_length (by rw [List.length_take,Array.length_toList];omega),List.take_take,Nat.min_eq_left ho]
  exact h7
theorem run_clear_one {P:Program} (w:World) (t e ty:TypeId) (z:Value) (ht:P.underlying t=some (.slice e)) (hv:∀ w,(zeroValue e).run P w=.ok z w) (zs:List Value) (hz:(Builtin.zeroCells z.cells 1).toList=zs) (h1:∀ u∈zs,u.oneCell'=true) (b o c:Nat)
  (hc:∀ j,j<zs.length→(w.cell? ⟨b,o+j,none⟩).isSome=true) (hf:∀ j,j<zs.length→w.frozen? ⟨b,o+j,none⟩=false) :
  (Builtin.clear_ #[t] ty #[.slice (some ⟨b,o,none⟩) 1 c]).run P w=.ok (.tuple #[]) (w.setCells b o zs):=by
 have hst:=run_storeCells_cells (P:=P) b o zs 0 w (by simpa using hc) (by simpa using hf) h1
 simp only [Nat.add_zero] at hst
 simp [Builtin.clear_,run_underlying ht,hv,hz,hst]
theorem clear_two {α:Type} {d:Kd α} {P:Program} {t e:Nat} (ht:P.underlying t=some (.slice e)) (zs:List Value) (z:Value) (hv:∀ w,(zeroValue e).run P w=.ok z w) (hz:(Builtin.zeroCells z.cells 1).toList=zs) (hzs:∀ u∈zs,u.oneCell'=true) (hlz:zs.length=d.sz)
  (base:Nat) {Q_:Nat→Prop} {g m c n:Nat} {ys:List α} {w w0 w1:World} (h:Kd.N d e w1 base Q_ (.slice (some ⟨g,0,none⟩) m c) ys) (hB:Below base w0 w1) (hg:w.grownBy w1 (some g)) (hbg:base≤g) (hc:m<c) :
  ∃ w2,(∀ ty,(Builtin.clear_ #[t] ty #[.slice (some ⟨g,m * d.sz,none⟩) 1 (c - m)]).run P w1=.ok (.tuple #[]) w2)∧Kd.N d e w2 base Q_ (.slice (some ⟨g,0,none⟩) m c) ys∧Below base w0 w2∧Kept w w2 (fun k_=>some k_=(Value.slice (some ⟨g,0,none⟩) n c).ownBlock):=by
 obtain ⟨hown,rows,hl,hR,hf⟩:=h
 obtain ⟨hR1,inner,ho,hr⟩:=hR
 obtain ⟨cells,hcells,hsz⟩:∃ cells:Array Value,w1.heap[g]?=some (.cells cells e (0,0))∧cells.size=c * d.sz:=by
  rcases ho.2 with ⟨h2,_⟩|⟨g',cap',cur,h1,h2,h3,h4,h5,h6,h7⟩
  ·cases h2
  ·injection h1 with h1 _ h1c
   injection h1 with h1
   injection h1 with h1
   subst h1 h1c
   exact ⟨cur,h3,h6⟩
 have hlen:rows.length=m:=by
  rcases ho.2 with ⟨h2,_⟩|⟨g',cap',cur,h1,h2,h3,h4,h5,h6,h7⟩
  ·cases h2
  ·injection h1 with _ h1 _
   exact h1.symm
 have hroom:m * d.sz+zs.length≤c * d.sz:=by
  rw [hlz,← Nat.succ_mul]
  exact Nat.mul_le_mul_right _ hc
 obtain ⟨s1,s2,s3,s4⟩:=setCells_same g zs (m * d.sz) w1
 refine ⟨w1.setCells g (m * d.sz) zs,fun ty=>?_,⟨hown,rows,hl,⟨hR1,inner,?_,hr⟩,?_⟩,?_,?_⟩
 ·refine run_clear_one w1 t e ty z ht hv zs hz hzs g (m * d.sz) (c - m) ?_ ?_
  ·intro j hj
   rw [blk_cell hcells,Array.getElem?_eq_getElem (by omega)]
   rfl
  ·intro j hj
   exact blk_frozen hcells _
 ·rw [hlen] at ho ⊢
  exact own_behind ho _ (Nat.le_refl _) hroom
 ·intro j x cc hx hc2
  refine FK_step (hf j x cc hx hc2) (fun k hk hlt=>setCells_far _ _ k (fun e=>hk.2 (by rw [e];simp [Value.ownBlock])))
 ·exact ⟨by rw [s1];exact hB.os,by rw [s2];exact hB.tape,by rw [s3];exact hB.output,by rw [s4];exact hB.size,fun k hk=>(setCells_far _ _ k (by omega)).trans (hB.block k hk)⟩
 ·refine ⟨by rw [s4];exact hg.size,fun k hk hn=>?_⟩
  have hne:k≠g:=fun e=>hn (by rw [e];simp [Value.ownBlock])
  exact (setCells_far _ _ k hne).trans (hg.block k hk (fun e=>hne (by injection e)))
theorem delete_at {P:Program} {ops:Array Oper} {o:Oper} {a:Act} {Q:Exit→Act→World→Prop} {Kc:Act→World→Prop} {α:Type} (d:Kd α) {w0 w W:World} (base:Nat) (hgd:o.guard=none) (s x:Operand) (t e:TypeId) (ho:o.op=.call {callee:=.builtin .append,args:=#[s,x],argTypes:=#[t,t]})
  (ht:P.underlying t=some (.slice e)) (hinfo:(P.info? e).map (·.size)=some d.sz) {g n c k j m:Nat} (hj:j=k+1) (hm:m=n - 1) {xs:List α} {ok:Nat→Prop}
  (hs:a.eval s=.slice (some ⟨g,0,none⟩) k c) (hx:a.eval x=.slice (if c=j then some ⟨g,0,none⟩ else some ⟨g,j * d.sz,none⟩) (n - j) (c - j))
  (HO:Kd.N d e W base ok (.slice (some ⟨g,0,none⟩) n c) xs) (hk:k<n) (HB:Below base w0 W) (hbase:base≤W.heap.size) (hwW:w.grownBy W (some g))
  (h:∀ w1,Kd.N d e w1 base ok (.slice (some ⟨g,0,none⟩) m c) (xs.eraseIdx k)→Below base w0 w1→w.grownBy w1 (some g)→Kc (a.put o.dst (.slice (some ⟨g,0,none⟩) m c)) w1) :
  if Region.wanted o (yielded ops a.tmps)=true then Oper.wp P o a W Kc Q else Kc (a.put o.dst undef) W:=by
 subst hj hm
 refine Kd.N_delete_step d base (by simp [Region.wanted,hgd]) s x t e ho ht hinfo hs hx ?_ rfl HO hk HB hbase (fun w1 h1 h2 h3=>h w1 h1 h2 ⟨h3.os.trans hwW.os,h3.tape.trans hwW.tape,h3.output.trans hwW.output,Nat.le_trans hwW.size h3.size,fun k hk hn=>(h3.block k (Nat.lt_of_lt_of_le hk hwW.size) hn).trans (hwW.block k hk hn)⟩)
 split
 ·rfl
 ·simp only [Option.map_some,Addr.add_lit,Nat.zero_add]
set_option maxHeartbeats 4000000 in
set_option maxRecDepth 1000000 in
theorem delete_one {P:Program} {ρ:Ren} {α:Type} (d:Kd α) (mixed:P.follows .mixedOrders=true) (f45:Bears P (ρ.f 45) (SlBodyN.n45 ρ))
  (t0:P.underlying (ρ.t 0)=some (TypeDesc.tuple #[])) (a0:∀ w,(isAgg (ρ.t 0)).run P w=.ok false w) (z0:∀ w,(Go.sizeOf (ρ.t 0)).run P w=.ok 1 w) (v0:∀ w,(zeroValue (ρ.t 0)).run P w=.ok (Value.tuple #[]) w)
  (t3:P.underlying (ρ.t 3)=some (TypeDesc.int IntKind.i64)) (a3:∀ w,(isAgg (ρ.t 3)).run P w=.ok false w) (z3:∀ w,(Go.sizeOf (ρ.t 3)).run P w=.ok 1 w) (v3:∀ w,(zeroValue (ρ.t 3)).run P w=.ok (Value.int IntKind.i64 0) w)
  (t4:P.underlying (ρ.t 4)=some (TypeDesc.bool)) (a4:∀ w,(isAgg (ρ.t 4)).run P w=.ok false w) (z4:∀ w,(Go.sizeOf (ρ.t 4)).run P w=.ok 1 w) (v4:∀ w,(zeroValue (ρ.t 4)).run P w=.ok (Value.bool false) w)
  (t22:P.underlying (ρ.t 22)=some (TypeDesc.slice (ρ.t 23))) (a22:∀ w,(isAgg (ρ.t 22)).run P w=.ok false w) (z22:∀ w,(Go.sizeOf (ρ.t 22)).run P w=.ok 1 w) (v22:∀ w,(zeroValue (ρ.t 22)).run P w=.ok (Value.slice none 0 0) w)
  (z23:∀ w,(Go.sizeOf (ρ.t 23)).run P w=.ok d.sz w) (hinfo:(P.info? (ρ.t 23)).map (·.size)=some d.sz)
  (zs:List Value) (z:Value) (hv:∀ w,(zeroValue (ρ.t 23)).run P w=.ok z w) (hz:(Builtin.zeroCells z.cells 1).toList=zs) (hzs:∀ u∈zs,u.oneCell'=true) (hlz:zs.length=d.sz)
  {Q_:Nat→Prop} {g n c i j m:Nat} {xs:List α} {w w0:World} (hj:j=i+1) (hm:m=n - 1) (hin:i<n) (hnc:n≤c) (hcm:c≤9223372036854775807) (hB:Below w0.heap.size w0 w) (hbg:w0.heap.size≤g) (hgw:g<w.heap.size) (ho:Kd.N d (ρ.t 23) w w0.heap.size Q_ (.slice (some ⟨g,0,none⟩) n c) xs) :
  Calls P (ρ.f 45) #[.slice (some ⟨g,0,none⟩) n c,.int .i64 i,.int .i64 j] w fun e w'=>e=.returned (.slice (some ⟨g,0,none⟩) m c)∧Kd.N d (ρ.t 23) w' w0.heap.size Q_ (.slice (some ⟨g,0,none⟩) m c) (xs.eraseIdx i)∧Below w0.heap.size w0 w'∧Kept w w' (fun k_=>some k_=(Value.slice (some ⟨g,0,none⟩) n c).ownBlock):=by
 have hO:=zA ho
 have hB':=zA hB
 have hJ:=zA hj
 have hM:=zA hm
 have hbw:=zA (Nat.le_of_lt (Nat.lt_of_le_of_lt hbg hgw))
 have hbg':=zA hbg
 have hinfo':=zA hinfo
 have hcl:=fun (w1:World) (h1:Kd.N d (ρ.t 23) w1 w0.heap.size Q_ (.slice (some ⟨g,0,none⟩) m c) (xs.eraseIdx i)) (h2:Below w0.heap.size w0 w1) (h3:w.grownBy w1 (some g))=>clear_two (n:=n) t22 zs z hv hz hzs hlz w0.heap.size h1 h2 h3 hbg (show m<c by omega)
 have hCL:=zA hcl
 have hic:i≤c:=by omega
 have hjc:j≤c:=by omega
 have hij:i≤j:=by omega
 have hjn:j≤n:=by omega
 have hlt2:i<j:=by omega
 have hmn:m≤n:=by omega
 have hmc:m≤c:=by omega
 have hmc2:¬ (c=m):=by omega
 have h1:n - m=1:=by omega
 clear hcl hj hm ho hB hbg hgw hinfo hv hz hzs hlz
 obtain ⟨_,_,FG⟩:=f45
 go_enter FG,SlBodyN.n45_ntmps ρ
 go_wp2_with fail
 go_region_law_o (refine delete_at (w:=w) d w0.heap.size rfl (.tmp 22) (.tmp 25) (ρ.t 22) (ρ.t 23) rfl t22 hinfo'.out hJ.out hM.out (by simp [Act.eval,Act.put]) (by simp [Act.eval,Act.put]) (Kd.N_drew hO.out) (by omega) ((hB'.out).drew) hbw.out ⟨rfl,rfl,rfl,Nat.le_refl _,fun _ _ _=>rfl⟩ ?_;intro w1 h1_ h2_ h3_;obtain ⟨w2,hc2,hF⟩:=hCL.out w1 h1_ h2_ h3_;clear h1_ h2_ h3_;have hF':=zA hF;clear hF)
 go_wp2
 all_goals (go_ret;have hF:=hF'.out;first|exact ⟨rfl,hF⟩|(have e_:c=j:=(by assumption);subst e_;exact ⟨rfl,hF⟩)|(have e_:c=j:=(by assumption);rw [e_] at hF;exact ⟨rfl,hF⟩))
def laysDel2_ren:Ren:=⟨fun|45=>71|n=>n,fun|22=>22|23=>50|3=>3|4=>4|0=>0|n=>n,fun|n=>n⟩
def api_Table_71.f (l0:List (S50)) (a1:Int) (a2:Int):Option ((List (S50))):=if 0≤a1 then (if a2=a1+1 then (if a1<(l0.length:Int) then some (l0.eraseIdx a1.toNat) else none) else none) else none
theorem api_Table_71.calls (P0_:Nat→Prop) (u9000_:Value) (l0:List (S50)) (a1:Int) (a2:Int) (r:List (S50)) (w0 w:World) (hB:Below w0.heap.size w0 w) (ho0:Kd.N k50 50 w w0.heap.size P0_ u9000_ l0) (h:api_Table_71.f l0 a1 a2=some r) :
 Calls Try.prog 71 #[u9000_,.int .i64 a1,.int .i64 a2] w fun e w'=>∃ v0_:Value,e=.returned (v0_)∧Kd.N k50 50 w' w0.heap.size P0_ v0_ r∧Below w0.heap.size w0 w'∧Kept w w' (fun k_=>some k_=u9000_.ownBlock)∧v0_.ownBlock=u9000_.ownBlock:=by
 unfold api_Table_71.f at h
 by_cases h0:0≤a1
 case neg=>rw [if_neg h0] at h;cases h
 rw [if_pos h0] at h
 by_cases h1:a2=a1+1
 case neg=>rw [if_neg h1] at h;cases h
 rw [if_pos h1] at h
 by_cases h2:a1<(l0.length:Int)
 case neg=>rw [if_neg h2] at h;cases h
 rw [if_pos h2] at h
 obtain rfl:=Option.some.inj h
 clear h
 obtain ⟨i,rfl⟩:∃ i:Nat,a1=i:=⟨a1.toNat,by omega⟩
 obtain rfl:a2=((i+1:Nat):Int):=by omega
 simp only [Int.toNat_natCast]
 obtain ⟨g,c,rfl,hbg,hlt,_⟩:=Kd.N_form ho0 (by omega)
 obtain ⟨e1,hnc,_⟩:=Kd.N_reads' ho0
 have hcm:c≤9223372036854775807:=by
  obtain ⟨_,rows,hl,hR,_⟩:=ho0
  obtain ⟨_,inner,ho,_⟩:=hR
  rcases ho.2 with ⟨h3,_⟩|⟨g',cap',cur,h3,_,_,_,h5,_⟩
  ·cases h3
  ·injection h3 with _ _ h3
   subst h3
   exact h5
 refine (delete_one (ρ:=laysDel2_ren) k50 zK ⟨Try.f71.name,by decide,Try.func71.trans (congrArg some zK)⟩ Try.underlying0 Try.isAgg0 Try.sizeOf0 Try.zeroValue0 Try.underlying3 Try.isAgg3 Try.sizeOf3 Try.zeroValue3 Try.underlying4 Try.isAgg4 Try.sizeOf4 Try.zeroValue4 Try.underlying22 Try.isAgg22 Try.sizeOf22 Try.zeroValue22 Try.sizeOf50 zK [.slice none 0 0,.slice none 0 0] _ Try.zeroValue50 zK (by intro u hu;simp at hu;subst hu;rfl) rfl (j:=i+1) rfl rfl (show i<l0.length by omega) hnc hcm hB hbg hlt ho0).mono ?_
 rintro e w' ⟨rfl,k1,k2,k3⟩
 exact ⟨_,rfl,k1,k2,k3,rfl⟩
end
def api_Table_72.f (l0:List (S50)):Option ((List (S50))):=(some (([]:List (S50)):List (S50))).bind fun y389=>(if y389.length+l0.length<2932031007402 then (some (y389++l0)) else (none))
set_option maxHeartbeats 8000000 in
set_option maxRecDepth 100000 in
theorem api_Table_72.calls (P0_:Nat→Prop) (A0:Option Addr) (c0:Nat) (l0:List (S50)) (r:List (S50)) (w:World) (hs0:Kd.V k50 50 w w.heap.size (fun k_=>P0_ k_) (.slice A0 l0.length c0) l0) (h:api_Table_72.f l0=some r) :
  Calls Try.prog 72 #[.slice A0 l0.length c0] w fun e w'=>∃ v0_:Value,e=.returned (v0_)∧Kd.N k50 50 w' w.heap.size (fun k_=>(P0_ k_∨w.heap.size≤k_)) v0_ r∧Below w.heap.size w w':=by
 have HO0:=zA (show Kd.V k50 50 w w.heap.size (fun k_=>(P0_ k_∨w.heap.size≤k_)) (.slice A0 l0.length c0) l0 from Kd.V_mono hs0 (fun k_ hk=>.inl hk))
 have HB:=zA (Below.refl w.heap.size w)
 have H:((some (([]:List (S50)):List (S50))).bind fun y389=>(if y389.length+l0.length<2932031007402 then (some (y389++l0)) else (none)))=some r:=h
 clear h
 have hnq_:∀ (w:World) (a:Option Addr) (n c n' c':Nat),(binOp .eql 22 (.slice a n c) (.slice none n' c')).run Try.prog w=.ok (.bool a.isNone) w:=fun w a n c n' c'=>Lib.run_eql_slice_nil w _ _ a n c n' c' Try.underlying22
 rcases A0 with _|adn0
 ·obtain rfl:l0=[]:=(by rcases l0 with _|⟨x_,xs_⟩;(· rfl);(· obtain ⟨_,_,e_,_⟩:=Kd.C_get (Kd.V_reads' HO0.out).2.2 z50 0 (by omega) (by simp);cases e_))
  simp only [List.length_nil,List.nil_append] at H
  (first|rw [if_pos (by omega)] at H|simp at H)
  try simp only [Option.some.injEq] at H
  subst H
  go_enter Try.func72,Try.ntmps72
  go_wp2
  go_ret
  first|exact ⟨_,rfl,Kd.R_nil _ _ _ _ _,Below.refl _ _⟩|exact ⟨_,rfl,Kd.S_nil _ _ _ _ _,Below.refl _ _⟩|exact ⟨_,rfl,Kd.V_nil _ _ _ _ _,Below.refl _ _⟩|exact ⟨_,rfl,Kd.N_nil _ _ _ _ _,Below.refl _ _⟩
 ·replace H:=H
  first|(replace H:=zyb (([]:List (S50))) H;obtain ⟨y389,Ny389,H⟩:=H)|(obtain ⟨y389,hy389⟩:=zY (([]:List (S50)));(try rw (occs:=.pos [1]) [← hy389] at H);have Ny389:=zA hy389;clear hy389)
  obtain ⟨c2,H⟩:=if1 H
  have LMc2:=zA c2
  clear c2
  first|(replace H:=zyb (y389++l0) H;obtain ⟨y392,Ny392,H⟩:=H)|(obtain ⟨y392,hy392⟩:=zY (y389++l0);(try rw (occs:=.pos [1]) [← hy392] at H);have Ny392:=zA hy392;clear hy392)
  obtain rfl:=Option.some.inj H
  go_enter Try.func72,Try.ntmps72
  go_wp2_with (first|((with_reducible refine gate_dst (N:=5) rfl ?_);refine Kd.N_lit k50 _ 50 ?hg (N':=5) ?hd (xs:=([]:List (S50))) (inner:=[]) (ok:=(fun k_=>(P0_ k_∨w.heap.size≤k_))) (okp:=(fun k_=>(P0_ k_∨w.heap.size≤k_))) ?hr ?hp (fun _ hk=>hk) ((show ∀ k_,w.heap.size≤k_→(fun k_=>(P0_ k_∨w.heap.size≤k_)) k_ from fun k_ hk=>(.inr (Nat.le_trans (below_size zB) hk))) _ (Nat.le_refl _)) (Below.refl _ _) (Nat.le_refl _) (by simp) ?_;(case hd=>rfl);(case hg=>rfl);(case hr=>first|(go_simp;done)|(go_simp;rfl));(case hp=>exact (Reps.none _ _));intro v390 w3 ho4 hb hg_ hnew_;clear hg_ hnew_;(first|rw [← Ny389.out] at ho4|(simp only [Int.reduceToNat] at ho4;rw [← Ny389.out] at ho4));have HO391:=zA (Kd.N_lower ho4 (below_size zB));replace HO0:=zA (Kd.V_elder' (zV HO0) (Kd.N_base ho4) hb);replace HB:=zu hb;clear hb ho4)|((with_reducible refine gate_builtin (b:=.append) (xs:=#[.tmp 5,.tmp 6]) rfl ?_);at_builtin;refine Kd.N_append_rows k50 (w0:=w) w.heap.size rfl (.tmp 5) (.tmp 6) 22 50 (.agg #[(.slice none 0 0),(.slice none 0 0)]) 48 rfl Try.underlying22 info50 rfl (by decide) (by omega) v390 y389 l0 _ _ _ (fun k_=>(P0_ k_∨w.heap.size≤k_)) (fun k_=>((fun k_=>(P0_ k_∨w.heap.size≤k_))) k_∧some k_≠(v390:Value).ownBlock) rfl rfl ?aO ?aR (fun _ hk=>hk) ?aF ?aB ?aS ?aL ?_;(case aR=>exact (by skip;exact Kd.V_F (Kd.V_mono (ok':=(fun k_=>((fun k_=>(P0_ k_∨w.heap.size≤k_))) k_∧some k_≠(v390:Value).ownBlock)) (HO0.out) (fun k_ hk=>⟨hk.1,hk.2⟩))));(case aB=>exact zB);(case aF=>exact (fun k_ hk=>(.inr (Nat.le_trans (below_size zB) hk))));(case aO=>exact (zN HO391));(case aS=>exact (below_size zB));(case aL=>have:=LMc2.out;omega);intro v393 w5 ho hb hg hat;rw [← Ny392.out] at ho;have HO394:=zA (ho);replace HO0:=zA (Kd.V_afterv (ok:=(fun k_=>(P0_ k_∨w.heap.size≤k_))) (zV HO0) hg hat);replace HB:=zA (hb);clear HO391;clear ho hb hg hat))
  go_ret
  exact ⟨_,ze,by (with_reducible repeat (first|apply Kd.N_alloc|apply Kd.N_drewN|apply Kd.N_drew));exact HO394.out,by repeat (first|(with_reducible first|exact HB.out|apply below_alloc|apply pw_below_drewN|apply below_drew1)|exact HB.out)⟩
def conflict_Smallest.l0:Nat→List (S50)→Int→Int→List Int→List (S115)→List Int→Option (List Int×(List (S115))×List Int×Int)
 | 0,_,_,_,_,_,_=>none
 | k+1,x7,x43,x44,x402000,x402001,x402002=>if x44<x43 then ((api_Table_72.f x7).bind fun t409=>((api_Table_71.f t409 x44 (wrap64 (x44+1))).bind fun t412=>((solve_First.f k t412).bind fun bt415=>(if bt415.2=0 then (if x402002.length<17592186044416 then (conflict_Smallest.l0 k x7 x43 (wrap64 (x44+1)) x402000 x402001 (x402002++[bt415.1])) else (none)) else (some (([]:List Int),([]:List (S115)),([]:List Int),bt415.2)))))) else (some (x402000,x402001,x402002,0))
def conflict_Smallest.f (k:Nat) (l0:List (S50)):Option (List Int×(List (S115))×List Int×Int):=(conflict_Cores.f k l0).bind fun bt396=>(if bt396.2=0 then (if (bt396.1.length:Int)=0 then (some (([]:List Int),([]:List (S115)),([]:List Int),11)) else (if 0<(bt396.1.length:Int) then ((conflict_system.f k l0 (rd_L1 bt396.1 0)).bind fun t402=>((solve_Refute.f k t402).bind fun bt405=>(if bt405.2=0 then (conflict_Smallest.l0 k t402 (t402.length:Int) 0 (rd_L1 bt396.1 0) bt405.1 ([]:List Int)) else (some (([]:List Int),([]:List (S115)),([]:List Int),bt405.2))))) else (none))) else (some (([]:List Int),([]:List (S115)),([]:List Int),bt396.2)))
theorem conflict_Smallest.mono_l:∀ k,(∀ y0 y1 y2 y3 y4 y5,LeO (conflict_Smallest.l0 k y0 y1 y2 y3 y4 y5) (conflict_Smallest.l0 (k+1) y0 y1 y2 y3 y4 y5))
 | 0=>fun _ _ _ _ _ _ r h=>by simp [conflict_Smallest.l0] at h
 | k+1=>by
  have ih0:=conflict_Smallest.mono_l k
  ·intro y0 y1 y2 y3 y4 y5
   unfold conflict_Smallest.l0
   repeat' first
   | (with_reducible exact ih0 _ _ _ _ _ _)
   | (with_reducible exact conflict_Cores.mono _ _)
   | (with_reducible exact conflict_system.mono _ _ _)
   | (with_reducible exact solve_First.mono _ _)
   | (with_reducible exact solve_Refute.mono _ _)
   | (with_reducible exact LeO.refl _)
   | (with_reducible exact LeO.none _)
   | (with_reducible refine LeO.ite ?_ ?_)
   | (with_reducible refine LeO.bind ?_ (fun _=>?_))
   | exact LeO.none _
   | refine LeO.ite ?_ ?_
   | refine LeO.bind ?_ (fun _=>?_)
theorem conflict_Smallest.mono:∀ a0 k,LeO (conflict_Smallest.f k a0) (conflict_Smallest.f (k+1) a0):=by
 intro a0 k
 have ih0:=conflict_Smallest.mono_l k
 unfold conflict_Smallest.f
 repeat' first
   | (with_reducible exact ih0 _ _ _ _ _ _)
   | (with_reducible exact conflict_Cores.mono _ _)
   | (with_reducible exact conflict_system.mono _ _ _)
   | (with_reducible exact solve_First.mono _ _)
   | (with_reducible exact solve_Refute.mono _ _)
   | (with_reducible exact LeO.refl _)
   | (with_reducible exact LeO.none _)
   | (with_reducible refine LeO.ite ?_ ?_)
   | (with_reducible refine LeO.bind ?_ (fun _=>?_))
   | exact LeO.none _
   | refine LeO.ite ?_ ?_
   | refine LeO.bind ?_ (fun _=>?_)
set_option maxHeartbeats 8000000 in
set_option maxRecDepth 100000 in
theorem conflict_Smallest.calls (k:Nat) (P0_:Nat→Prop) (A0:Option Addr) (c0:Nat) (l0:List (S50)) (r1:List Int) (r2:List (S115)) (r3:List Int) (r4:Int) (w:World) (hs0:Kd.V k50 50 w w.heap.size (fun k_=>P0_ k_) (.slice A0 l0.length c0) l0) (h:conflict_Smallest.f k l0=some (r1,r2,r3,r4)) :
  Calls Try.prog 37 #[.slice A0 l0.length c0] w fun e w'=>∃ v0_ v1_ v2_:Value,e=.returned (.tuple #[.agg #[v0_,v1_,v2_],.int .i64 r4])∧Kd.V (Kd.int .i64) 3 w' w.heap.size (fun k_=>(P0_ k_∨w.heap.size≤k_)∧some k_≠(v1_:Value).ownBlock∧some k_≠(v2_:Value).ownBlock) v0_ r1∧Kd.R k115 115 w' w.heap.size (fun k_=>(w.heap.size≤k_)) v1_ r2∧Kd.R (Kd.int .i64) 3 w' w.heap.size (fun k_=>(w.heap.size≤k_)) v2_ r3∧Below w.heap.size w w':=by
 have hu65:=Try.underlying65
 have hu30:=Try.underlying30
 have hu63:=Try.underlying63
 have HO0:=zA (show Kd.V k50 50 w w.heap.size (fun k_=>(P0_ k_∨w.heap.size≤k_)) (.slice A0 l0.length c0) l0 from Kd.V_mono hs0 (fun k_ hk=>.inl hk))
 have HB:=zA (Below.refl w.heap.size w)
 have H:((conflict_Cores.f k l0).bind fun bt396=>(if bt396.2=0 then (if (bt396.1.length:Int)=0 then (some (([]:List Int),([]:List (S115)),([]:List Int),11)) else (if 0<(bt396.1.length:Int) then ((conflict_system.f k l0 (rd_L1 bt396.1 0)).bind fun t402=>((solve_Refute.f k t402).bind fun bt405=>(if bt405.2=0 then (conflict_Smallest.l0 k t402 (t402.length:Int) 0 (rd_L1 bt396.1 0) bt405.1 ([]:List Int)) else (some (([]:List Int),([]:List (S115)),([]:List Int),bt405.2))))) else (none))) else (some (([]:List Int),([]:List (S115)),([]:List Int),bt396.2))))=some (r1,r2,r3,r4):=h
 clear h
 obtain ⟨t396,t399,A2,H⟩:=zO H
 dsimp only at H
 have HC3:=zA H
 clear H
 go_enter Try.func37,Try.ntmps37
 go_upto_if 17 with (first|((with_reducible refine gd 2 rfl ?_);refine zx #[.slice none 0 0,.slice none 0 0,.slice none 0 0] 65 (h:=?_);intro gb395 hg w4 BK395 hb GW395 HB1;have GE395:=GW395;replace HO0:=zA (Kd.V_below (Kd.V_elderB (zV HO0) gb395 (Nat.le_of_eq hg.symm)) hb);clear HB hb hg;have HB:=HB1;clear HB1)|((with_reducible refine gate_callee (f:=11) rfl ?_);refine goesL_ (some 13) rfl rfl Try.func11 zK rfl #[.slice A0 l0.length c0] rfl zM ?_;(with_reducible refine (conflict_Cores.calls k _ _ l0 t396 t399 _ ?side1 ?side2 A2.out).mono ?_);(case side1=>exact zC (Kd.V_reads' HO0.out).2.2);(case side2=>exact (Kd.V_reads' HO0.out).2.1);rintro e w5 ⟨v397,rfl,ho0,hb⟩;refine ⟨_,rfl,?_⟩;have HO398:=zA (Kd.N_lower (Kd.N_mono (ok':=fun k_=>(P0_ k_∨w.heap.size≤k_)∧k_≠gb395) ho0 (fun k_ hk_=>⟨(.inr (Nat.le_trans (below_size zB) hk_)),(Kd.freshB (g:=gb395) (o:=.cells #[.slice none 0 0,.slice none 0 0,.slice none 0 0] 65 (0,0)) (zk BK395) k_ hk_)⟩)) (below_size zB));replace HO0:=zA (Kd.V_elder' (zV HO0) (Kd.N_base ho0) hb);replace BK395:=zw BK395 hb;replace HB:=zu hb;clear hb;(try clear ho0)))
 (try simp only [Act.put,zi,zs,zt])
 have H:=HC3.out
 clear HC3
 rcases ife H with ⟨c6b0,c6b1,H⟩|⟨c6,c6b0,c6b1,H⟩
 ·(first|rw [c6b0]|(simp only [i64_w,i32_w];rw [c6b0])|skip)
  (try rw [c6b1])
  rcases ife H with ⟨c7b0,c7b1,H⟩|⟨c7,c7b0,c7b1,H⟩
  ·simp only [Option.some.injEq,Prod.mk.injEq] at H
   obtain ⟨rfl,rfl,rfl,rfl⟩:=H
   obtain ⟨Ao8,co8,eo8⟩:=Kd.N_slice HO398.out
   subst eo8
   have hcz9_0:=zc0 BK395
   have hcz9_1:=zc1 BK395
   have hcz9_2:=zc2 BK395
   have hfz9_0:=zf BK395 0
   have hfz9_1:=zf BK395 1
   have hfz9_2:=zf BK395 2
   go_wp2
   refine bodyPost_ret (results_ct rfl _ _ gb395 65 #[.slice none 0 0,.slice none 0 0,.slice none 0 0] (0,0) _ rfl (by refine zj ?_;refine blk_put (cs:=#[.slice none 0 0,.slice none 0 0,.slice none 0 0]) ?_ 2 _ rfl;refine zj ?_;refine blk_put (cs:=#[.slice none 0 0,.slice none 0 0,.slice none 0 0]) ?_ 1 _ rfl;refine zj ?_;refine blk_put (cs:=#[.slice none 0 0,.slice none 0 0,.slice none 0 0]) ?_ 0 _ rfl;refine zj ?_;exact BK395.out) Try.underlying65 rfl zK) rfl ?_
   exact ⟨_,_,_,ze,(Kd.V_nil _ _ _ _ _),by first|exact Kd.R_nil _ _ _ _ _|exact Kd.N_nil _ _ _ _ _|exact Kd.V_nil _ _ _ _ _|exact Kd.Q_nil _ _ _ _ _|exact Kd.S_nil _ _ _ _ _,by first|exact Kd.R_nil _ _ _ _ _|exact Kd.N_nil _ _ _ _ _|exact Kd.V_nil _ _ _ _ _|exact Kd.Q_nil _ _ _ _ _|exact Kd.S_nil _ _ _ _ _,by repeat (first|(with_reducible first|exact HB.out|apply below_alloc|apply pw_below_drewN|apply below_drew1|refine below_set ?_ GE395.out)|exact HB.out)⟩
  ·have c7b2:¬ (t396=[]):=fun h_=>c7 (by rw [h_];rfl)
   obtain ⟨c10,H⟩:=if1 H
   have c10b0:decide (0<(t396.length:Int))=true:=decide_eq_true c10
   have c10b1:decide (0<t396.length)=true:=decide_eq_true (by omega)
   clear c10
   obtain ⟨t402,A11,H⟩:=zo H
   obtain ⟨t405,t408,A12,H⟩:=zO H
   dsimp only at H
   have HC13:=zA H
   clear H
   obtain ⟨Ao14,co14,eo14⟩:=Kd.N_slice HO398.out
   subst eo14
   have p400:0≤(0:Int):=(by omega)
   have q400:0<(t396.length:Int):=of_decide_eq_true zh
   obtain ⟨ad400,A400_0,c400_0,e400,hx400_0,hl400_0,hi400_0⟩:=at_L1 (Kd.N_reads' HO398.out).2.2 0 p400 q400
   cases e400
   obtain ⟨ce400,hce400,hMe400,hcc400⟩:=Kd.N_get HO398.out [] 0 p400 (by first|exact q400|exact of_decide_eq_true zh|(have e_:=(Kd.N_reads' HO398.out).1;omega))
   obtain ⟨ua400_0,uc400_0,rfl,ul400_0,ge400_0⟩:=Kd.FK_slice_open hMe400
   have hv400_0:=hcc400 0 _ rfl
   rw [Nat.add_zero,show ((Kd.slice 3 (Kd.int .i64))).sz=1 from rfl,Nat.mul_one] at hv400_0
   replace hv400_0:=Option.some.inj (hv400_0.symm.trans hx400_0)
   injection hv400_0 with hva_ hvn_ hvc_
   rw [hva_] at ge400_0
   rw [hvc_] at ul400_0
   have HL400_0:=zA (show Kd.V (Kd.int .i64) 3 _ w.heap.size _ _ (rd_L1 t396 0) from Kd.V_mk ul400_0 ge400_0)
   clear hva_ hvn_ hvc_ ge400_0 ul400_0
   clear hcc400 hce400
   have qi400:(0<t396.length)=True:=eq_true (by omega)
   (try rw [show ((0:Int)).toNat=0 from rfl] at hx400_0)
   (try rw [Addr.add_zero'] at hx400_0)
   have HR400_0:=zA hi400_0
   have HC400_0:=zA hl400_0
   clear hi400_0 hl400_0
   replace p400:=eq_true p400
   replace q400:=eq_true q400
   go_upto_if 39 with (first|((with_reducible refine gd 6 rfl ?_);refine zx #[.slice none 0 0,.slice none 0 0,.slice none 0 0] 65 (h:=?_);intro gb401 hg w15 BK401 hb GW401 HB1;have GE401:=GW401;have NB395_401:=zL hg BK395;have NB401_395:=zLs NB395_401;replace HO0:=zA (Kd.V_below (Kd.V_elderB (zV HO0) gb401 (Nat.le_of_eq hg.symm)) hb);replace HO398:=zA (Kd.N_below (Kd.N_elderB (zN HO398) gb401 (Nat.le_of_eq hg.symm)) hb);replace BK395:=zw BK395 hb;replace HR400_0:=zA (Kd.C_below ((Kd.V_reads' HL400_0.out).2.2) hb);replace HL400_0:=zA (Kd.V_below (Kd.V_elderB (by (with_reducible repeat (first|apply Kd.V_alloc|apply Kd.V_drewN|apply Kd.V_drew));exact HL400_0.out) gb401 (Nat.le_of_eq hg.symm)) hb);clear HB hb hg;have HB:=HB1;clear HB1;have hnb16:=NB401_395.out;have hnc16:=NB395_401.out;have hcz17_0:=zc0 BK401;have hcz17_1:=zc1 BK401;have hcz17_2:=zc2 BK401;have hfz17_0:=zf BK401 0;have hfz17_1:=zf BK401 1;have hfz17_2:=zf BK401 2)|((with_reducible refine gate_store (t:=65) (p:=6) rfl ?_);refine store_event (t:=65) (p:=6) (v:=?vo_w18) (w1:=(((w15.setCell ⟨gb401,0,none⟩ (.slice A400_0 (rd_L1 t396 0).length c400_0)).setCell ⟨gb401,1,none⟩ (.slice none 0 0)).setCell ⟨gb401,2,none⟩ (.slice none 0 0))) ?hg ?ho ?hn ?hr ?_;(case ho=>rfl);(case hg=>rfl);(case hn=>rfl);(case hr=>first|(go_simp;done)|(go_simp;rfl));intro w18 hw;replace HO0:Aside0 (Kd.V k50 50 w18 w.heap.size (fun k_=>(P0_ k_∨w.heap.size≤k_)∧some k_≠(.slice (some ad400) t396.length co14:Value).ownBlock∧k_≠gb395∧k_≠gb401) (.slice A0 l0.length c0) l0):=⟨(by rw [hw];exact (by (with_reducible repeat (first|apply Kd.V_alloc|apply Kd.V_drewN|apply Kd.V_drew));exact Kd.V_mono (Kd.V_far (p:=⟨gb401,2,none⟩) (Kd.V_far (p:=⟨gb401,1,none⟩) (Kd.V_far (p:=⟨gb401,0,none⟩) (Kd.V_mono HO0.out (fun k_ hk=>(⟨hk,hk.2⟩:_∧k_≠gb401))) (fun _ hk=>hk.2) (.slice A400_0 (rd_L1 t396 0).length c400_0)) (fun _ hk=>hk.2) (.slice none 0 0)) (fun _ hk=>hk.2) (.slice none 0 0)) (fun _ hk=>⟨hk.1.1.1.1,⟨hk.1.1.2,⟨hk.1.1.1.2,hk.1.2⟩⟩⟩)))⟩;replace HO398:Aside0 (Kd.N (Kd.slice 3 (Kd.int .i64)) 30 w18 w.heap.size (fun k_=>(P0_ k_∨w.heap.size≤k_)∧k_≠gb395∧k_≠gb401) (.slice (some ad400) t396.length co14) t396):=⟨(by rw [hw];exact (by (with_reducible repeat (first|apply Kd.N_alloc|apply Kd.N_drewN|apply Kd.N_drew));exact Kd.N_mono (Kd.N_far (p:=⟨gb401,2,none⟩) (Kd.N_far (p:=⟨gb401,1,none⟩) (Kd.N_far (p:=⟨gb401,0,none⟩) (Kd.N_mono HO398.out (fun k_ hk=>(⟨hk,hk.2⟩:_∧k_≠gb401))) (fun _ hk=>hk.2) (.slice A400_0 (rd_L1 t396 0).length c400_0)) (fun _ hk=>hk.2) (.slice none 0 0)) (fun _ hk=>hk.2) (.slice none 0 0)) (fun _ hk=>⟨hk.1.1.1,⟨hk.1.1.2,hk.1.2⟩⟩)))⟩;replace HL400_0:Aside0 (Kd.V (Kd.int .i64) 3 w18 w.heap.size (fun k_=>(P0_ k_∨w.heap.size≤k_)∧some k_≠(.slice (some ad400) t396.length co14:Value).ownBlock∧k_≠gb395∧k_≠gb401) (.slice A400_0 (rd_L1 t396 0).length c400_0) (rd_L1 t396 0)):=⟨(by rw [hw];exact (by (with_reducible repeat (first|apply Kd.V_alloc|apply Kd.V_drewN|apply Kd.V_drew));exact Kd.V_mono (Kd.V_far (p:=⟨gb401,2,none⟩) (Kd.V_far (p:=⟨gb401,1,none⟩) (Kd.V_far (p:=⟨gb401,0,none⟩) (Kd.V_mono HL400_0.out (fun k_ hk=>(⟨hk,hk.2⟩:_∧k_≠gb401))) (fun _ hk=>hk.2) (.slice A400_0 (rd_L1 t396 0).length c400_0)) (fun _ hk=>hk.2) (.slice none 0 0)) (fun _ hk=>hk.2) (.slice none 0 0)) (fun _ hk=>⟨hk.1.1.1.1,⟨hk.1.1.2,⟨hk.1.1.1.2,hk.1.2⟩⟩⟩)))⟩;replace BK395:Aside0 (w18.heap[gb395]?=some (.cells #[.slice none 0 0,.slice none 0 0,.slice none 0 0] 65 (0,0))):=⟨(by rw [hw];exact (by refine zj ?_;refine blk_far ?_ NB395_401.out _;refine zj ?_;refine blk_far ?_ NB395_401.out _;refine zj ?_;refine blk_far ?_ NB395_401.out _;refine zj ?_;exact BK395.out))⟩;replace BK401:Aside0 (w18.heap[gb401]?=some (.cells #[.slice A400_0 (rd_L1 t396 0).length c400_0,.slice none 0 0,.slice none 0 0] 65 (0,0))):=⟨(by rw [hw];exact (by refine zj ?_;refine blk_put (cs:=#[.slice A400_0 (rd_L1 t396 0).length c400_0,.slice none 0 0,.slice none 0 0]) ?_ 2 _ rfl;refine zj ?_;refine blk_put (cs:=#[.slice A400_0 (rd_L1 t396 0).length c400_0,.slice none 0 0,.slice none 0 0]) ?_ 1 _ rfl;refine zj ?_;refine blk_put (cs:=#[.slice none 0 0,.slice none 0 0,.slice none 0 0]) ?_ 0 _ rfl;refine zj ?_;exact BK401.out))⟩;replace HB:Aside0 (Below w.heap.size w w18):=⟨(by rw [hw];exact zB)⟩;clear hw;have hcz19_0:=zc0 BK401;have hcz19_1:=zc1 BK401;have hcz19_2:=zc2 BK401;have hfz19_0:=zf BK401 0;have hfz19_1:=zf BK401 1;have hfz19_2:=zf BK401 2)|((with_reducible refine gate_callee (f:=67) rfl ?_);refine goesL_ (some 31) rfl rfl Try.func67 zK rfl #[.slice A0 l0.length c0,.slice A400_0 (rd_L1 t396 0).length c400_0] rfl zM ?_;(with_reducible refine (conflict_system.calls k (fun k_=>((P0_ k_∨w.heap.size≤k_)∧(some k_≠(.slice (some ad400) t396.length co14:Value).ownBlock∧(k_≠gb395∧k_≠gb401)))) _ _ l0 _ _ (rd_L1 t396 0) t402 _ ?side1 ?side2 HC400_0.out A11.out).mono ?_);(case side1=>exact HO0.out);(case side2=>exact zC ((Kd.V_reads' HL400_0.out).2.2));rintro e w20 ⟨v403,rfl,ho0,hb⟩;refine ⟨_,rfl,?_⟩;have HO404:=zA (Kd.N_lower (Kd.N_mono (ok':=fun k_=>(P0_ k_∨w.heap.size≤k_)∧some k_≠(.slice (some ad400) t396.length co14:Value).ownBlock∧k_≠gb395∧k_≠gb401) ho0 (fun k_ hk_=>⟨Or.elim hk_ (fun hs_=>hs_.1) (fun hn_=>(.inr (Nat.le_trans (below_size zB) hn_))),Or.elim hk_ (fun hs_=>hs_.2.1) (fun hn_=>(Kd.fresh' (Kd.N_lt (zN HO398)) k_ hn_)),Or.elim hk_ (fun hs_=>hs_.2.2.1) (fun hn_=>(Kd.freshB (g:=gb395) (o:=.cells #[.slice none 0 0,.slice none 0 0,.slice none 0 0] 65 (0,0)) (zk BK395) k_ hn_)),Or.elim hk_ (fun hs_=>hs_.2.2.2) (fun hn_=>(Kd.freshB (g:=gb401) (o:=.cells #[.slice A400_0 (rd_L1 t396 0).length c400_0,.slice none 0 0,.slice none 0 0] 65 (0,0)) (zk BK401) k_ hn_))⟩)) (below_size zB));replace HO0:=zA (Kd.V_elder' (zV HO0) (Kd.N_base ho0) hb);replace HO398:=zA (Kd.N_elder' (zN HO398) (Kd.N_base ho0) hb);replace BK395:=zw BK395 hb;replace HR400_0:=zA (Kd.C_below ((Kd.V_reads' HL400_0.out).2.2) hb);replace HL400_0:=zA (Kd.V_elder' (by (with_reducible repeat (first|apply Kd.V_alloc|apply Kd.V_drewN|apply Kd.V_drew));exact HL400_0.out) (Kd.N_base ho0) hb);replace BK401:=zw BK401 hb;replace HB:=zu hb;clear hb;(try clear ho0);obtain ⟨Ao21,co21,eo21⟩:=Kd.N_slice HO404.out;subst eo21)|((with_reducible refine gate_callee (f:=70) rfl ?_);refine goesL_ (some 34) rfl rfl Try.func70 zK rfl #[.slice Ao21 t402.length co21] rfl zM ?_;(with_reducible refine (solve_Refute.calls k _ _ t402 t405 t408 _ ?side1 ?side2 A12.out).mono ?_);(case side1=>exact zC (Kd.N_reads' HO404.out).2.2);(case side2=>exact (Kd.N_reads' HO404.out).2.1);rintro e w22 ⟨v406,rfl,ho0,hb⟩;refine ⟨_,rfl,?_⟩;have HO407:=zA (Kd.R_lower (Kd.R_newM (M:=fun k_=>(w.heap.size≤k_)) ho0 (below_size zB) (fun k_ h_=>h_)) (below_size zB));replace HO0:=zA (Kd.V_elder' (zV HO0) (Kd.R_base ho0) hb);replace HO398:=zA (Kd.N_elder' (zN HO398) (Kd.R_base ho0) hb);replace HO404:=zA (Kd.N_elder' (zN HO404) (Kd.R_base ho0) hb);replace BK395:=zw BK395 hb;replace HR400_0:=zA (Kd.C_below ((Kd.V_reads' HL400_0.out).2.2) hb);replace HL400_0:=zA (Kd.V_elder' (by (with_reducible repeat (first|apply Kd.V_alloc|apply Kd.V_drewN|apply Kd.V_drew));exact HL400_0.out) (Kd.R_base ho0) hb);replace BK401:=zw BK401 hb;replace HB:=zu hb;clear hb;(try clear ho0);obtain ⟨Ao23,co23,eo23⟩:=Kd.R_slice HO407.out;subst eo23;have hcz24_0:=zc0 BK401;have hcz24_1:=zc1 BK401;have hcz24_2:=zc2 BK401;have hfz24_0:=zf BK401 0;have hfz24_1:=zf BK401 1;have hfz24_2:=zf BK401 2))
   (try simp only [Act.put,zi,zs,zt])
   have H:=HC13.out
   clear HC13
   rcases ife H with ⟨c25b0,c25b1,H⟩|⟨c25,c25b0,c25b1,H⟩
   ·(first|rw [c25b0]|(simp only [i64_w,i32_w];rw [c25b0])|skip)
    (try rw [c25b1])
    have H':=zA H
    clear H
    go_wp2
    go_loopg [44] k (fun kq v44 w'=>∃ (x44_1:Int) (x402002_1:List Int) (u402002:Value),v44=.int .i64 x44_1∧Aside0 (conflict_Smallest.l0 kq t402 (t402.length:Int) x44_1 (rd_L1 t396 0) t405 x402002_1=some (r1,r2,r3,r4))∧Aside0 (kq≤k)∧Aside0 (Kd.N k50 50 w' w.heap.size (fun k_=>(P0_ k_∨w.heap.size≤k_)∧some k_≠((.slice Ao23 t405.length co23):Value).ownBlock∧some k_≠(u402002:Value).ownBlock∧k_≠gb395∧k_≠gb401) (.slice Ao21 t402.length co21) t402)∧Aside0 (Kd.V (Kd.int .i64) 3 w' w.heap.size (fun k_=>(P0_ k_∨w.heap.size≤k_)∧some k_≠((.slice Ao21 t402.length co21):Value).ownBlock∧some k_≠((.slice Ao23 t405.length co23):Value).ownBlock∧some k_≠(u402002:Value).ownBlock∧k_≠gb395∧k_≠gb401) (.slice A400_0 (rd_L1 t396 0).length c400_0) (rd_L1 t396 0))∧Aside0 (Kd.R k115 115 w' w.heap.size (fun k_=>(w.heap.size≤k_)) (.slice Ao23 t405.length co23) t405)∧Aside0 (Kd.R (Kd.int .i64) 3 w' w.heap.size (fun k_=>(w.heap.size≤k_)) u402002 x402002_1)∧Aside0 (w'.heap[gb395]?=some (.cells #[(.slice none 0 0),(.slice none 0 0),(.slice none 0 0)] 65 (0,0)))∧Aside0 (w'.heap[gb401]?=some (.cells #[(.slice A400_0 (rd_L1 t396 0).length c400_0),(.slice Ao23 t405.length co23),u402002] 65 (0,0)))∧Aside0 (Below w.heap.size w w'))
    case atStart=>exact ⟨(0),(([]:List Int)),(.slice none 0 0),zT,H',⟨Nat.le_refl _⟩,⟨by (with_reducible repeat (first|apply Kd.N_alloc|apply Kd.N_drewN|apply Kd.N_drew));exact Kd.N_mono (Kd.N_far (p:=⟨gb401,1,none⟩) (Kd.N_mono HO404.out (fun k_ hk=>(⟨hk,hk.1.2.2.2⟩:_∧k_≠gb401))) (fun _ hk=>hk.2) (.slice Ao23 t405.length co23)) (fun _ hk=>⟨hk.1.1.1,⟨hk.1.2,⟨(by simp [Value.ownBlock]),⟨hk.1.1.2.2.1,hk.1.1.2.2.2⟩⟩⟩⟩)⟩,⟨by (with_reducible repeat (first|apply Kd.V_alloc|apply Kd.V_drewN|apply Kd.V_drew));exact Kd.V_mono (Kd.V_far (p:=⟨gb401,1,none⟩) (Kd.V_mono HL400_0.out (fun k_ hk=>(⟨hk,hk.1.1.2.2.2⟩:_∧k_≠gb401))) (fun _ hk=>hk.2) (.slice Ao23 t405.length co23)) (fun _ hk=>⟨hk.1.1.1.1,⟨hk.1.1.2,⟨hk.1.2,⟨(by simp [Value.ownBlock]),⟨hk.1.1.1.2.2.1,hk.1.1.1.2.2.2⟩⟩⟩⟩⟩)⟩,⟨by refine zr ?_;exact Kd.R_mono (Kd.R_far (p:=⟨gb401,1,none⟩) (Kd.R_types HO407.out BK401.out (by decide)) (fun _ hk=>hk.2) (.slice Ao23 t405.length co23)) (fun _ hk=>hk.1.1)⟩,⟨by first|exact Kd.R_nil _ _ _ _ _|exact Kd.N_nil _ _ _ _ _|exact Kd.V_nil _ _ _ _ _|exact Kd.Q_nil _ _ _ _ _|exact Kd.S_nil _ _ _ _ _⟩,⟨by refine zj ?_;refine blk_far ?_ NB395_401.out _;refine zj ?_;exact BK395.out⟩,⟨by refine zj ?_;refine blk_put (cs:=#[.slice A400_0 (rd_L1 t396 0).length c400_0,.slice none 0 0,.slice none 0 0]) ?_ 1 _ rfl;refine zj ?_;exact BK401.out⟩,⟨by repeat (first|(with_reducible first|exact HB.out|apply below_alloc|apply pw_below_drewN|apply below_drew1|refine below_set ?_ GE395.out|refine below_set ?_ GE401.out)|exact HB.out)⟩⟩
    case round=>
     clear H'
     try clear c6
     try clear c6b0
     try clear c6b1
     try clear c7
     try clear c7b0
     try clear c7b1
     try clear c7b2
     try clear c10
     try clear c10b0
     try clear c10b1
     try clear c25
     try clear c25b0
     try clear c25b1
     try clear hcz17_0
     try clear hcz17_1
     try clear hcz17_2
     try clear hcz19_0
     try clear hcz19_1
     try clear hcz19_2
     try clear hcz24_0
     try clear hcz24_1
     try clear hcz24_2
     try clear hfz17_0
     try clear hfz17_1
     try clear hfz17_2
     try clear hfz19_0
     try clear hfz19_1
     try clear hfz19_2
     try clear hfz24_0
     try clear hfz24_1
     try clear hfz24_2
     try clear hx400_0
     try clear p400
     try clear q400
     obtain ⟨x44_1,x402002_1,u402002,rfl,HA,HK1,HO_7,HO_402000,HO_402001,HO_402002,BK395,BK401,HB⟩:=hrel
     cases gk with
     | zero=>exact absurd HA.out (by simp [conflict_Smallest.l0])
     | succ k1=>
      have H:=HA.out
      clear HA
      simp only [conflict_Smallest.l0] at H
      rcases ifd H with ⟨c26b0,H⟩|⟨c26b0,H⟩
      ·obtain ⟨t409,A27,H⟩:=zo H
       obtain ⟨t412,A28,H⟩:=zo H
       obtain ⟨t415,t416,A29,H⟩:=zO H
       dsimp only at H
       have HC30:=zA H
       clear H
       go_upto_if 58 with (first|((with_reducible refine gate_callee (f:=72) rfl ?_);refine goesL_ (some 49) rfl rfl Try.func72 zK rfl #[.slice Ao21 t402.length co21] rfl zM ?_;(with_reducible refine (api_Table_72.calls (fun k_=>((P0_ k_∨w.heap.size≤k_)∧(some k_≠(.slice Ao23 t405.length co23:Value).ownBlock∧(some k_≠(u402002:Value).ownBlock∧(k_≠gb395∧k_≠gb401))))) _ _ t402 t409 _ ?side1 A27.out).mono ?_);(case side1=>exact Kd.N_V (HO_7.out));rintro e w31 ⟨v410,rfl,ho0,hb⟩;refine ⟨_,rfl,?_⟩;have HO411:=zA (Kd.N_lower (Kd.N_mono (ok':=fun k_=>(P0_ k_∨w.heap.size≤k_)∧some k_≠(.slice Ao23 t405.length co23:Value).ownBlock∧some k_≠(u402002:Value).ownBlock∧k_≠gb395∧k_≠gb401) ho0 (fun k_ hk_=>⟨Or.elim hk_ (fun hs_=>hs_.1) (fun hn_=>(.inr (Nat.le_trans (below_size zB) hn_))),Or.elim hk_ (fun hs_=>hs_.2.1) (fun hn_=>(Kd.fresh' (Kd.R_lt (zR HO_402001)) k_ hn_)),Or.elim hk_ (fun hs_=>hs_.2.2.1) (fun hn_=>(Kd.fresh' (Kd.R_lt (zR HO_402002)) k_ hn_)),Or.elim hk_ (fun hs_=>hs_.2.2.2.1) (fun hn_=>(Kd.freshB (g:=gb395) (o:=.cells #[.slice none 0 0,.slice none 0 0,.slice none 0 0] 65 (0,0)) (zk BK395) k_ hn_)),Or.elim hk_ (fun hs_=>hs_.2.2.2.2) (fun hn_=>(Kd.freshB (g:=gb401) (o:=.cells #[.slice A400_0 (rd_L1 t396 0).length c400_0,.slice Ao23 t405.length co23,u402002] 65 (0,0)) (zk BK401) k_ hn_))⟩)) (below_size zB));replace HO_7:=zA (Kd.N_elder' (zN HO_7) (Kd.N_base ho0) hb);replace HO_402000:=zA (Kd.V_elder' (zV HO_402000) (Kd.N_base ho0) hb);replace HO_402001:=zA (Kd.R_below (zR HO_402001) hb);replace HO_402002:=zA (Kd.R_below (zR HO_402002) hb);replace BK395:=zw BK395 hb;replace BK401:=zw BK401 hb;replace HB:=zu hb;clear hb;(try clear ho0);obtain ⟨Ao32,co32,eo32⟩:=Kd.N_slice HO411.out;subst eo32)|((with_reducible refine gate_callee (f:=71) rfl ?_);refine goesL_ (some 53) rfl rfl Try.func71 zK rfl #[.slice Ao32 t409.length co32,.int .i64 x44_1,.int .i64 (wrap64 (x44_1+1))] rfl zM ?_;(with_reducible refine (api_Table_71.calls (fun k_=>(((P0_ k_∨w.heap.size≤k_))∧(some k_≠(.slice Ao23 t405.length co23:Value).ownBlock∧(some k_≠(u402002:Value).ownBlock∧(k_≠gb395∧k_≠gb401))))) (.slice Ao32 t409.length co32) t409 x44_1 (wrap64 (x44_1+1)) t412 w _ ?side1 ?side2 A28.out).mono ?_);(case side1=>repeat (first|(with_reducible first|exact HB.out|apply below_alloc|apply pw_below_drewN|apply below_drew1|refine below_set ?_ GE395.out|refine below_set ?_ GE401.out)|exact HB.out));(case side2=>((with_reducible repeat (first|apply Kd.N_alloc|apply Kd.N_drewN|apply Kd.N_drew));exact HO411.out));rintro e w33 ⟨v413,rfl,ho0,hb,hkp,hown_⟩;refine ⟨_,rfl,?_⟩;have HO414:=zA (ho0);replace HO_7:=zA (Kd.N_mono (ok':=fun k_=>(P0_ k_∨w.heap.size≤k_)∧some k_≠(.slice Ao23 t405.length co23:Value).ownBlock∧some k_≠(u402002:Value).ownBlock∧k_≠gb395∧k_≠gb401∧some k_≠(v413:Value).ownBlock) (Kd.N_keptB (HO_7.out) hkp (fun k_ hk_ hs_=>(hk_.2) hs_)) (fun k_ hk_=>⟨hk_.1.1.1,hk_.1.1.2.1,hk_.1.1.2.2.1,hk_.1.1.2.2.2.1,hk_.1.1.2.2.2.2,fun e_=>(hk_.1.2) (e_.trans hown_)⟩));replace HO_402000:=zA (Kd.V_mono (ok':=fun k_=>(P0_ k_∨w.heap.size≤k_)∧some k_≠(.slice Ao21 t402.length co21:Value).ownBlock∧some k_≠(.slice Ao23 t405.length co23:Value).ownBlock∧some k_≠(u402002:Value).ownBlock∧k_≠gb395∧k_≠gb401∧some k_≠(v413:Value).ownBlock) (Kd.V_keptB (HO_402000.out) hkp (fun k_ hk_ hs_=>(hk_.2) hs_)) (fun k_ hk_=>⟨hk_.1.1.1,hk_.1.1.2.1,hk_.1.1.2.2.1,hk_.1.1.2.2.2.1,hk_.1.1.2.2.2.2.1,hk_.1.1.2.2.2.2.2,fun e_=>(hk_.1.2) (e_.trans hown_)⟩));replace HO_402001:=zA (Kd.R_mono (ok':=fun k_=>(w.heap.size≤k_)) (Kd.R_keptB ((Kd.R_apart' HO_402001.out (Kd.N_typed HO411.out) (by decide))) hkp (fun k_ hk_ hs_=>(hk_.2) hs_)) (fun k_ hk_=>hk_.1.1));replace HO_402002:=zA (Kd.R_mono (ok':=fun k_=>(w.heap.size≤k_)) (Kd.R_keptB ((Kd.R_apart' HO_402002.out (Kd.N_typed HO411.out) (by decide))) hkp (fun k_ hk_ hs_=>(hk_.2) hs_)) (fun k_ hk_=>hk_.1.1));replace BK395:=zA (blk_kept (zk BK395) hkp (fun hs_=>(fun e_=>(Kd.N_ne HO411.out BK395.out (by decide)) e_) hs_));replace BK401:=zA (blk_kept (zk BK401) hkp (fun hs_=>(fun e_=>(Kd.N_ne HO411.out BK401.out (by decide)) e_) hs_));replace HB:=zA (hb);clear HO411;(try clear hb);(try clear hkp);(try clear hown_);(try clear ho0);obtain ⟨Ao34,co34,eo34⟩:=Kd.N_slice HO414.out;subst eo34)|((with_reducible refine gate_callee (f:=29) rfl ?_);refine goesL_ (some 54) rfl rfl Try.func29 zK rfl #[.slice Ao34 t412.length co34] rfl zM ?_;(with_reducible refine (solve_First.calls k1 _ _ t412 t415 t416 _ ?side1 ?side2 A29.out).mono ?_);(case side1=>exact zC (Kd.N_reads' HO414.out).2.2);(case side2=>exact (Kd.N_reads' HO414.out).2.1);rintro e w35 ⟨rfl,hb⟩;refine ⟨_,rfl,?_⟩;replace HO_7:=zA (Kd.N_below (zN HO_7) hb);replace HO_402000:=zA (Kd.V_below (zV HO_402000) hb);replace HO_402001:=zA (Kd.R_below (zR HO_402001) hb);replace HO_402002:=zA (Kd.R_below (zR HO_402002) hb);replace HO414:=zA (Kd.N_below (zN HO414) hb);replace BK395:=zw BK395 hb;replace BK401:=zw BK401 hb;replace HB:=zu hb;clear hb))
       (try simp only [Act.put,zi,zs,zt])
       have H:=HC30.out
       clear HC30
       rcases ife H with ⟨c36b0,c36b1,H⟩|⟨c36,c36b0,c36b1,H⟩
       ·(first|rw [c36b0]|(simp only [i64_w,i32_w];rw [c36b0])|skip)
        (try rw [c36b1])
        obtain ⟨c37,H⟩:=if1 H
        have LMc37:=zA c37
        clear c37
        first|(replace H:=zyb (x402002_1++[t415]) H;obtain ⟨y417,Ny417,H⟩:=H)|(obtain ⟨y417,hy417⟩:=zY (x402002_1++[t415]);(try rw (occs:=.pos [1]) [← hy417] at H);have Ny417:=zA hy417;clear hy417)
        have H':=zA H
        clear H
        have hnb38:=NB401_395.out
        have hnc38:=NB395_401.out
        have hcz39_0:=zc0 BK401
        have hcz39_1:=zc1 BK401
        have hcz39_2:=zc2 BK401
        have hfz39_0:=zf BK401 0
        have hfz39_1:=zf BK401 1
        have hfz39_2:=zf BK401 2
        go_wp2_with (first|((with_reducible refine gate_builtin (b:=.append) (xs:=#[.tmp 62,.tmp 64]) rfl ?_);at_builtin;refine Kd.R_append (Kd.int .i64) (w0:=w) w.heap.size rfl (.tmp 62) (.tmp 64) 30 3 (.int .i64 0) 8 rfl Try.underlying30 info3 rfl (by decide) (by omega) u402002 x402002_1 t415 [.int .i64 t415] (fun k_=>(w.heap.size≤k_)) (fun _=>False) rfl rfl ?aP (fun _ hk=>hk.elim) ?aF ?aO ?aB ?aS ?aL ?_;(case aP=>exact rfl);(case aB=>exact zB);(case aF=>exact (fun k_ hk=>(Nat.le_trans (below_size zB) hk)));(case aO=>exact (zR HO_402002));(case aS=>exact (below_size zB));(case aL=>have:=LMc37.out;omega);intro v418 w40 ho hb hg hat;rw [← Ny417.out] at ho;have HO419:=zA (ho);replace HO_7:=zA (Kd.N_afterv (ok:=(fun k_=>(P0_ k_∨w.heap.size≤k_)∧some k_≠(.slice Ao23 t405.length co23:Value).ownBlock∧some k_≠(.slice Ao34 t412.length co34:Value).ownBlock∧k_≠gb395∧k_≠gb401)) (by (with_reducible repeat (first|apply Kd.N_alloc|apply Kd.N_drewN|apply Kd.N_drew));exact Kd.N_mono HO_7.out (fun _ hk=>⟨⟨hk.1,⟨hk.2.1,⟨hk.2.2.2.2.2,⟨hk.2.2.2.1,hk.2.2.2.2.1⟩⟩⟩⟩,hk.2.2.1⟩)) hg hat);replace HO_402000:=zA (Kd.V_afterv (ok:=(fun k_=>(P0_ k_∨w.heap.size≤k_)∧some k_≠(.slice Ao21 t402.length co21:Value).ownBlock∧some k_≠(.slice Ao23 t405.length co23:Value).ownBlock∧some k_≠(.slice Ao34 t412.length co34:Value).ownBlock∧k_≠gb395∧k_≠gb401)) (by (with_reducible repeat (first|apply Kd.V_alloc|apply Kd.V_drewN|apply Kd.V_drew));exact Kd.V_mono HO_402000.out (fun _ hk=>⟨⟨hk.1,⟨hk.2.1,⟨hk.2.2.1,⟨hk.2.2.2.2.2.2,⟨hk.2.2.2.2.1,hk.2.2.2.2.2.1⟩⟩⟩⟩⟩,hk.2.2.2.1⟩)) hg hat);replace HO_402001:=zA (Kd.R_over' (zR HO_402001) (Kd.R_typed (zR HO_402002)) (by decide) hg);replace BK395:=zA (blk_grown (g:=gb395) (o:=.cells #[.slice none 0 0,.slice none 0 0,.slice none 0 0] 65 (0,0)) (zk BK395) hg (Kd.R_ne HO_402002.out BK395.out (by decide)));replace BK401:=zA (blk_grown (g:=gb401) (o:=.cells #[.slice A400_0 (rd_L1 t396 0).length c400_0,.slice Ao23 t405.length co23,u402002] 65 (0,0)) (zk BK401) hg (Kd.R_ne HO_402002.out BK401.out (by decide)));replace HO414:=zA (Kd.N_afterv (ok:=(fun k_=>(P0_ k_∨w.heap.size≤k_)∧some k_≠(.slice Ao23 t405.length co23:Value).ownBlock∧k_≠gb395∧k_≠gb401)) (by (with_reducible repeat (first|apply Kd.N_alloc|apply Kd.N_drewN|apply Kd.N_drew));exact Kd.N_mono HO414.out (fun _ hk=>⟨⟨hk.1,⟨hk.2.1,⟨hk.2.2.2.1,hk.2.2.2.2⟩⟩⟩,hk.2.2.1⟩)) hg hat);replace HB:=zA (hb);clear HO_402002;clear ho hb hg hat;obtain ⟨Ao41,co41,eo41⟩:=Kd.R_slice HO419.out;subst eo41;have hcz42_0:=zc0 BK401;have hcz42_1:=zc1 BK401;have hcz42_2:=zc2 BK401;have hfz42_0:=zf BK401 0;have hfz42_1:=zf BK401 1;have hfz42_2:=zf BK401 2))
        go_roundg k1
        case measure=>have:=HK1.out;omega
        case rel=>exact ⟨(wrap64 (x44_1+1)),(y417),(.slice Ao41 y417.length co41),zT,H',⟨by have:=HK1.out;omega⟩,⟨by (with_reducible repeat (first|apply Kd.N_alloc|apply Kd.N_drewN|apply Kd.N_drew));exact Kd.N_mono (Kd.N_far (p:=⟨gb401,2,none⟩) (Kd.N_mono HO_7.out (fun k_ hk=>(⟨hk,hk.1.2.2.2.2⟩:_∧k_≠gb401))) (fun _ hk=>hk.2) (.slice Ao41 y417.length co41)) (fun _ hk=>⟨hk.1.1.1,⟨hk.1.1.2.1,⟨hk.1.2,⟨hk.1.1.2.2.2.1,hk.1.1.2.2.2.2⟩⟩⟩⟩)⟩,⟨by (with_reducible repeat (first|apply Kd.V_alloc|apply Kd.V_drewN|apply Kd.V_drew));exact Kd.V_mono (Kd.V_far (p:=⟨gb401,2,none⟩) (Kd.V_mono HO_402000.out (fun k_ hk=>(⟨hk,hk.1.2.2.2.2.2⟩:_∧k_≠gb401))) (fun _ hk=>hk.2) (.slice Ao41 y417.length co41)) (fun _ hk=>⟨hk.1.1.1,⟨hk.1.1.2.1,⟨hk.1.1.2.2.1,⟨hk.1.2,⟨hk.1.1.2.2.2.2.1,hk.1.1.2.2.2.2.2⟩⟩⟩⟩⟩)⟩,⟨by refine zr ?_;exact Kd.R_mono (Kd.R_far (p:=⟨gb401,2,none⟩) (Kd.R_types HO_402001.out BK401.out (by decide)) (fun _ hk=>hk.2) (.slice Ao41 y417.length co41)) (fun _ hk=>hk.1)⟩,⟨by refine zr ?_;exact Kd.R_mono (Kd.R_far (p:=⟨gb401,2,none⟩) (Kd.R_types HO419.out BK401.out (by decide)) (fun _ hk=>hk.2) (.slice Ao41 y417.length co41)) (fun _ hk=>hk.1)⟩,⟨by refine zj ?_;refine blk_far ?_ NB395_401.out _;refine zj ?_;exact BK395.out⟩,⟨by refine zj ?_;refine blk_put (cs:=#[.slice A400_0 (rd_L1 t396 0).length c400_0,.slice Ao23 t405.length co23,u402002]) ?_ 2 _ rfl;refine zj ?_;exact BK401.out⟩,⟨by repeat (first|(with_reducible first|exact HB.out|apply below_alloc|apply pw_below_drewN|apply below_drew1|refine below_set ?_ GE395.out|refine below_set ?_ GE401.out)|exact HB.out)⟩⟩
       ·(first|rw [c36b0]|(simp only [i64_w,i32_w];rw [c36b0])|skip)
        (try rw [c36b1])
        simp only [Option.some.injEq,Prod.mk.injEq] at H
        obtain ⟨rfl,rfl,rfl,rfl⟩:=H
        have hnb43:=NB395_401.out
        have hnc43:=NB401_395.out
        have hcz44_0:=zc0 BK395
        have hcz44_1:=zc1 BK395
        have hcz44_2:=zc2 BK395
        have hfz44_0:=zf BK395 0
        have hfz44_1:=zf BK395 1
        have hfz44_2:=zf BK395 2
        go_wp2
        refine bodyPost_ret (results_ct rfl _ _ gb395 65 #[.slice none 0 0,.slice none 0 0,.slice none 0 0] (0,0) _ rfl (by refine zj ?_;refine blk_put (cs:=#[.slice none 0 0,.slice none 0 0,.slice none 0 0]) ?_ 2 _ rfl;refine zj ?_;refine blk_put (cs:=#[.slice none 0 0,.slice none 0 0,.slice none 0 0]) ?_ 1 _ rfl;refine zj ?_;refine blk_put (cs:=#[.slice none 0 0,.slice none 0 0,.slice none 0 0]) ?_ 0 _ rfl;refine zj ?_;exact BK395.out) Try.underlying65 rfl zK) rfl ?_
        exact ⟨_,_,_,ze,(Kd.V_nil _ _ _ _ _),by first|exact Kd.R_nil _ _ _ _ _|exact Kd.N_nil _ _ _ _ _|exact Kd.V_nil _ _ _ _ _|exact Kd.Q_nil _ _ _ _ _|exact Kd.S_nil _ _ _ _ _,by first|exact Kd.R_nil _ _ _ _ _|exact Kd.N_nil _ _ _ _ _|exact Kd.V_nil _ _ _ _ _|exact Kd.Q_nil _ _ _ _ _|exact Kd.S_nil _ _ _ _ _,by repeat (first|(with_reducible first|exact HB.out|apply below_alloc|apply pw_below_drewN|apply below_drew1|refine below_set ?_ GE395.out|refine below_set ?_ GE401.out)|exact HB.out)⟩
      ·simp only [Option.some.injEq,Prod.mk.injEq] at H
       obtain ⟨rfl,rfl,rfl,rfl⟩:=H
       have hnb45:=NB401_395.out
       have hnc45:=NB395_401.out
       have hcz46_0:=zc0 BK401
       have hcz46_1:=zc1 BK401
       have hcz46_2:=zc2 BK401
       have hfz46_0:=zf BK401 0
       have hfz46_1:=zf BK401 1
       have hfz46_2:=zf BK401 2
       have hcz47_0:=zc0 BK395
       have hcz47_1:=zc1 BK395
       have hcz47_2:=zc2 BK395
       have hfz47_0:=zf BK395 0
       have hfz47_1:=zf BK395 1
       have hfz47_2:=zf BK395 2
       obtain ⟨Ao48,co48,eo48⟩:=Kd.R_slice HO_402002.out
       subst eo48
       go_wp2
       refine bodyPost_ret (results_ct rfl _ _ gb395 65 #[.slice A400_0 (rd_L1 t396 0).length c400_0,.slice Ao23 t405.length co23,.slice Ao48 x402002_1.length co48] (0,0) _ rfl (by refine zj ?_;refine blk_put (cs:=#[.slice A400_0 (rd_L1 t396 0).length c400_0,.slice Ao23 t405.length co23,.slice none 0 0]) ?_ 2 _ rfl;refine zj ?_;refine blk_put (cs:=#[.slice A400_0 (rd_L1 t396 0).length c400_0,.slice none 0 0,.slice none 0 0]) ?_ 1 _ rfl;refine zj ?_;refine blk_put (cs:=#[.slice none 0 0,.slice none 0 0,.slice none 0 0]) ?_ 0 _ rfl;refine zj ?_;exact BK395.out) Try.underlying65 rfl zK) rfl ?_
       exact ⟨_,_,_,ze,by (with_reducible repeat (first|apply Kd.V_alloc|apply Kd.V_drewN|apply Kd.V_drew));exact Kd.V_mono (Kd.V_far (p:=⟨gb395,2,none⟩) (Kd.V_far (p:=⟨gb395,1,none⟩) (Kd.V_far (p:=⟨gb395,0,none⟩) (Kd.V_mono HO_402000.out (fun k_ hk=>(⟨hk,hk.2.2.2.2.1⟩:_∧k_≠gb395))) (fun _ hk=>hk.2) (.slice A400_0 (rd_L1 t396 0).length c400_0)) (fun _ hk=>hk.2) (.slice Ao23 t405.length co23)) (fun _ hk=>hk.2) (.slice Ao48 x402002_1.length co48)) (fun _ hk=>⟨hk.1.1,⟨hk.1.2.2.1,hk.1.2.2.2.1⟩⟩),by refine zr ?_;exact Kd.R_mono (Kd.R_far (p:=⟨gb395,2,none⟩) (Kd.R_far (p:=⟨gb395,1,none⟩) (Kd.R_far (p:=⟨gb395,0,none⟩) (Kd.R_types HO_402001.out BK395.out (by decide)) (fun _ hk=>hk.2) (.slice A400_0 (rd_L1 t396 0).length c400_0)) (fun _ hk=>hk.2) (.slice Ao23 t405.length co23)) (fun _ hk=>hk.2) (.slice Ao48 x402002_1.length co48)) (fun _ hk=>hk.1),by refine zr ?_;exact Kd.R_mono (Kd.R_far (p:=⟨gb395,2,none⟩) (Kd.R_far (p:=⟨gb395,1,none⟩) (Kd.R_far (p:=⟨gb395,0,none⟩) (Kd.R_types HO_402002.out BK395.out (by decide)) (fun _ hk=>hk.2) (.slice A400_0 (rd_L1 t396 0).length c400_0)) (fun _ hk=>hk.2) (.slice Ao23 t405.length co23)) (fun _ hk=>hk.2) (.slice Ao48 x402002_1.length co48)) (fun _ hk=>hk.1),by repeat (first|(with_reducible first|exact HB.out|apply below_alloc|apply pw_below_drewN|apply below_drew1|refine below_set ?_ GE395.out|refine below_set ?_ GE401.out)|exact HB.out)⟩
   ·(first|rw [c25b0]|(simp only [i64_w,i32_w];rw [c25b0])|skip)
    (try rw [c25b1])
    simp only [Option.some.injEq,Prod.mk.injEq] at H
    obtain ⟨rfl,rfl,rfl,rfl⟩:=H
    have hnb49:=NB395_401.out
    have hnc49:=NB401_395.out
    have hcz50_0:=zc0 BK395
    have hcz50_1:=zc1 BK395
    have hcz50_2:=zc2 BK395
    have hfz50_0:=zf BK395 0
    have hfz50_1:=zf BK395 1
    have hfz50_2:=zf BK395 2
    go_wp2
    refine bodyPost_ret (results_ct rfl _ _ gb395 65 #[.slice none 0 0,.slice none 0 0,.slice none 0 0] (0,0) _ rfl (by refine zj ?_;refine blk_put (cs:=#[.slice none 0 0,.slice none 0 0,.slice none 0 0]) ?_ 2 _ rfl;refine zj ?_;refine blk_put (cs:=#[.slice none 0 0,.slice none 0 0,.slice none 0 0]) ?_ 1 _ rfl;refine zj ?_;refine blk_put (cs:=#[.slice none 0 0,.slice none 0 0,.slice none 0 0]) ?_ 0 _ rfl;refine zj ?_;refine blk_far ?_ NB395_401.out _;refine zj ?_;exact BK395.out) Try.underlying65 rfl zK) rfl ?_
    exact ⟨_,_,_,ze,(Kd.V_nil _ _ _ _ _),by first|exact Kd.R_nil _ _ _ _ _|exact Kd.N_nil _ _ _ _ _|exact Kd.V_nil _ _ _ _ _|exact Kd.Q_nil _ _ _ _ _|exact Kd.S_nil _ _ _ _ _,by first|exact Kd.R_nil _ _ _ _ _|exact Kd.N_nil _ _ _ _ _|exact Kd.V_nil _ _ _ _ _|exact Kd.Q_nil _ _ _ _ _|exact Kd.S_nil _ _ _ _ _,by repeat (first|(with_reducible first|exact HB.out|apply below_alloc|apply pw_below_drewN|apply below_drew1|refine below_set ?_ GE395.out|refine below_set ?_ GE401.out)|exact HB.out)⟩
 ·(first|rw [c6b0]|(simp only [i64_w,i32_w];rw [c6b0])|skip)
  (try rw [c6b1])
  simp only [Option.some.injEq,Prod.mk.injEq] at H
  obtain ⟨rfl,rfl,rfl,rfl⟩:=H
  have hcz51_0:=zc0 BK395
  have hcz51_1:=zc1 BK395
  have hcz51_2:=zc2 BK395
  have hfz51_0:=zf BK395 0
  have hfz51_1:=zf BK395 1
  have hfz51_2:=zf BK395 2
  go_wp2
  refine bodyPost_ret (results_ct rfl _ _ gb395 65 #[.slice none 0 0,.slice none 0 0,.slice none 0 0] (0,0) _ rfl (by refine zj ?_;refine blk_put (cs:=#[.slice none 0 0,.slice none 0 0,.slice none 0 0]) ?_ 2 _ rfl;refine zj ?_;refine blk_put (cs:=#[.slice none 0 0,.slice none 0 0,.slice none 0 0]) ?_ 1 _ rfl;refine zj ?_;refine blk_put (cs:=#[.slice none 0 0,.slice none 0 0,.slice none 0 0]) ?_ 0 _ rfl;refine zj ?_;exact BK395.out) Try.underlying65 rfl zK) rfl ?_
  exact ⟨_,_,_,ze,(Kd.V_nil _ _ _ _ _),by first|exact Kd.R_nil _ _ _ _ _|exact Kd.N_nil _ _ _ _ _|exact Kd.V_nil _ _ _ _ _|exact Kd.Q_nil _ _ _ _ _|exact Kd.S_nil _ _ _ _ _,by first|exact Kd.R_nil _ _ _ _ _|exact Kd.N_nil _ _ _ _ _|exact Kd.V_nil _ _ _ _ _|exact Kd.Q_nil _ _ _ _ _|exact Kd.S_nil _ _ _ _ _,by repeat (first|(with_reducible first|exact HB.out|apply below_alloc|apply pw_below_drewN|apply below_drew1|refine below_set ?_ GE395.out)|exact HB.out)⟩
end Go.Proofs.Ytkjghablbeaioaa.G
