import Derived.Test.YtjlnpdpkobpkiaaDoorZ2PSPx2
namespace Go.Proofs.YtjlnpdpkobpkiaaDoorPSP
open Go.RowKit Go.Proofs.YtjlnpdpkobpkiaaDoorW.PrintWords Go.Proofs.YtjlnpdpkobpkiaaDoorW.PrintLast Go.Proofs.YtjlnpdpkobpkiaaDoorW.PrintMore
attribute [local go_sem] max2_int min2_int max_two min_two max_three min_three max_four min_four   -- for this text's walks alone
set_option linter.unusedVariables false
set_option linter.unusedSimpArgs false
mutual
def syntax_Rule_Vars.l0:Nat→List ByteArray→List (S59)→Int→Int→Option (List ByteArray)
  |0,_,_,_,_=>none
  |k+1,x3,x13,x14,x15=>if x15<x14 then (if 0≤x15 then (if x15<(x13.length:Int) then ((syntax_Part_Vars.f k ((rd_T59 x13 x15).f0) ((rd_T59 x13 x15).f1.f0) ((rd_T59 x13 x15).f1.f1) ((rd_T59 x13 x15).f2) ((rd_T59 x13 x15).f3.f0) ((rd_T59 x13 x15).f3.f1) ((rd_T59 x13 x15).f3.f2) ((rd_T59 x13 x15).f4.f0) ((rd_T59 x13 x15).f4.f1) ((rd_T59 x13 x15).f4.f2) ((rd_T59 x13 x15).f5) ((rd_T59 x13 x15).f6.f0.f0) ((rd_T59 x13 x15).f6.f0.f1) ((rd_T59 x13 x15).f6.f0.f2) ((rd_T59 x13 x15).f6.f1) ((rd_T59 x13 x15).f6.f2)).bind fun t177=>(if x3.length+t177.length<8796093022208 then (syntax_Rule_Vars.l0 k (x3++t177) x13 x14 (wrap64 (x15+1))) else (none))) else (none)) else (none)) else (syntax_Rule_Vars.l1 k ([]:List ByteArray) x3 (x3.length:Int) 0)
def syntax_Rule_Vars.l1:Nat→List ByteArray→List ByteArray→Int→Int→Option (List ByteArray)
  |0,_,_,_,_=>none
  |k+1,x6,x24,x25,x26=>if x26<x25 then (if 0≤x26 then (if x26<(x24.length:Int) then ((slices_Contains_string_string.f k x6 (rdOf ByteArray.empty x24 x26)).bind fun t184=>(if t184=true then (syntax_Rule_Vars.l1 k x6 x24 x25 (wrap64 (x26+1))) else (if x6.length<8796093022208 then (syntax_Rule_Vars.l1 k (x6++[rdOf ByteArray.empty x24 x26]) x24 x25 (wrap64 (x26+1))) else (none)))) else (none)) else (none)) else (some x6)
end
def syntax_Rule_Vars.f (k:Nat) (a0_0:ByteArray) (l0_1:List (S53)) (a0_2:Int) (l0_3:List (S59)) (a0_4:Int):Option (List ByteArray):=(syntax_Atom_Vars.f k a0_0 l0_1).bind fun t172=>(syntax_Rule_Vars.l0 k t172 l0_3 (l0_3.length:Int) 0)
set_option maxHeartbeats 8000000 in
set_option maxRecDepth 100000 in
theorem syntax_Rule_Vars.calls (k:Nat) (a0_0:ByteArray) (A0_1:Option Addr) (c0_1:Nat) (l0_1:List (S53)) (a0_2:Int) (A0_3:Option Addr) (c0_3:Nat) (l0_3:List (S59)) (a0_4:Int) (r:List ByteArray) (w:World) (hr0_1:Kd.C k53 w A0_1 l0_1.length l0_1) (hc0_1:l0_1.length≤c0_1) (hr0_3:Kd.C k59 w A0_3 l0_3.length l0_3) (hc0_3:l0_3.length≤c0_3) (h:syntax_Rule_Vars.f k a0_0 l0_1 a0_2 l0_3 a0_4=some r):
    Calls Tryd.prog 19 #[.agg #[.string a0_0,.slice A0_1 l0_1.length c0_1,.int .i64 a0_2,.slice A0_3 l0_3.length c0_3,.int .i64 a0_4]] w fun e w'=>∃v0_:Value,e= .returned (v0_)∧Kd.R Kd.string 9 w' w.heap.size (fun _=>True) v0_ r∧Below w.heap.size w w':=by
  have hu43:=Tryd.underlying43
  have hu39:=Tryd.underlying39
  have hu59:=Tryd.underlying59
  have HR0_1:=Aside0.mk hr0_1
  have HC0_1:=Aside0.mk hc0_1
  clear hr0_1 hc0_1
  have HR0_3:=Aside0.mk hr0_3
  have HC0_3:=Aside0.mk hc0_3
  clear hr0_3 hc0_3
  have HB:=Aside0.mk (Below.refl w.heap.size w)
  have H:((syntax_Atom_Vars.f k a0_0 l0_1).bind fun t172=>(syntax_Rule_Vars.l0 k t172 l0_3 (l0_3.length:Int) 0))=some r:=h
  clear h
  replace H:=Option.bind_eq_some_iff.mp H
  obtain ⟨t172,A20,H⟩:=H
  replace H:(syntax_Rule_Vars.l0 k t172 l0_3 (l0_3.length:Int) 0)=some r:=H
  have A2:=Aside0.mk A20
  clear A20
  have H':=Aside0.mk H
  clear H
  go_enter Tryd.func19,Tryd.ntmps19
  go_wp2_with (first|((with_reducible refine gate_dst (N:=1) rfl ?_);refine box_event ?hg (N:=1) ?hd (cs:= #[.string a0_0,.slice A0_1 l0_1.length c0_1,.int .i64 a0_2,.slice A0_3 l0_3.length c0_3,.int .i64 a0_4]) (t:=43) ?hr ?_;(case hd=>rfl);(case hg=>rfl);(case hr=>first|(go_simp;done)|(go_simp;rfl));intro gb171 hg w3 hbox hb;have n0_:=Aside0.mk (below_step (by repeat (first|(with_reducible first|exact HB.out|apply below_alloc|apply pw_below_drewN|apply below_drew1)|exact HB.out)) hb);have n1_:=Aside0.mk (hbox);have n2_:=Aside0.mk ((by rw [hg];exact (below_size (by repeat (first|(with_reducible first|exact HB.out|apply below_alloc|apply pw_below_drewN|apply below_drew1)|exact HB.out))):w.heap.size≤gb171));have n3_:=Aside0.mk ((by rw [hg];exact (below_size (by repeat (first|(with_reducible first|exact HB.out|apply below_alloc|apply pw_below_drewN|apply below_drew1)|exact HB.out))):w.heap.size≤gb171));clear HB;have HB:=n0_;have BK171:=n1_;have GW171:=n2_;have GE171:=n3_;clear n0_ n1_ n2_ n3_;clear hb hbox hg;have hcz4_0:w3.cell? ⟨gb171,0,none⟩=some (.string a0_0):=(blk_cell BK171.out 0).trans rfl;have hcz4_1:w3.cell? ⟨gb171,1,none⟩=some (.slice A0_1 l0_1.length c0_1):=(blk_cell BK171.out 1).trans rfl;have hcz4_2:w3.cell? ⟨gb171,2,none⟩=some (.int .i64 a0_2):=(blk_cell BK171.out 2).trans rfl;have hcz4_3:w3.cell? ⟨gb171,3,none⟩=some (.slice A0_3 l0_3.length c0_3):=(blk_cell BK171.out 3).trans rfl;have hcz4_4:w3.cell? ⟨gb171,4,none⟩=some (.int .i64 a0_4):=(blk_cell BK171.out 4).trans rfl;have hfz4_0:=blk_frozen BK171.out 0;have hfz4_1:=blk_frozen BK171.out 1;have hfz4_2:=blk_frozen BK171.out 2;have hfz4_3:=blk_frozen BK171.out 3;have hfz4_4:=blk_frozen BK171.out 4)|((with_reducible refine gate_callee (f:=14) rfl ?_);refine goesL_ (some 11) rfl rfl Tryd.func14 (by kernel_rfl) rfl #[.agg #[.string a0_0,.slice A0_1 l0_1.length c0_1]] rfl (by (try simp only [List.map_toArray,List.map_cons,List.map_nil]);first|done|rfl|(simp only [List.length_drop,List.length_take];rfl)) ?_;(with_reducible refine (syntax_Atom_Vars.calls k a0_0 _ _ l0_1 t172 _ ?side1 ?side2 A2.out).mono ?_);(case side1=>repeat (first|exact (Kd.C_below HR0_1.out HB.out)|(with_reducible refine Kd.C_alloc ?_ _)|(with_reducible refine Kd.C_drewN ?_ _)|(with_reducible refine Kd.C_drew ?_)));(case side2=>exact HC0_1.out);rintro e w5 ⟨v173,rfl,ho0,hb⟩;refine ⟨_,rfl,?_⟩;have n0_:=Aside0.mk (Kd.R_lower ho0 (below_size (by repeat (first|(with_reducible first|exact HB.out|apply below_alloc|apply pw_below_drewN|apply below_drew1|refine below_set ?_ GE171.out)|exact HB.out))));have n1_:=Aside0.mk (blk_below (g:=gb171) (o:= .cells #[.string a0_0,.slice A0_1 l0_1.length c0_1,.int .i64 a0_2,.slice A0_3 l0_3.length c0_3,.int .i64 a0_4] 43 (0,0)) (by (with_reducible repeat (first|refine blk_drewN ?_ _|refine blk_drew ?_|refine blk_alloc ?_ _));exact BK171.out) hb);have n2_:=Aside0.mk (below_step (by repeat (first|(with_reducible first|exact HB.out|apply below_alloc|apply pw_below_drewN|apply below_drew1|refine below_set ?_ GE171.out)|exact HB.out)) hb);clear BK171;clear HB;have HO174:=n0_;have BK171:=n1_;have HB:=n2_;clear n0_ n1_ n2_;(try clear hb);(try clear hb2);(try clear hk);(try clear hi);(try clear ho0);have hcz6_0:w5.cell? ⟨gb171,0,none⟩=some (.string a0_0):=(blk_cell BK171.out 0).trans rfl;have hcz6_1:w5.cell? ⟨gb171,1,none⟩=some (.slice A0_1 l0_1.length c0_1):=(blk_cell BK171.out 1).trans rfl;have hcz6_2:w5.cell? ⟨gb171,2,none⟩=some (.int .i64 a0_2):=(blk_cell BK171.out 2).trans rfl;have hcz6_3:w5.cell? ⟨gb171,3,none⟩=some (.slice A0_3 l0_3.length c0_3):=(blk_cell BK171.out 3).trans rfl;have hcz6_4:w5.cell? ⟨gb171,4,none⟩=some (.int .i64 a0_4):=(blk_cell BK171.out 4).trans rfl;have hfz6_0:=blk_frozen BK171.out 0;have hfz6_1:=blk_frozen BK171.out 1;have hfz6_2:=blk_frozen BK171.out 2;have hfz6_3:=blk_frozen BK171.out 3;have hfz6_4:=blk_frozen BK171.out 4))
  go_loopg [3,15] k (fun kq v3 v15 w'=>∃(x3_1:List ByteArray) (x15_1:Int),v15= .int .i64 x15_1∧Aside0 (syntax_Rule_Vars.l0 kq x3_1 l0_3 (l0_3.length:Int) x15_1=some r)∧Aside0 (kq≤k)∧Aside0 (Kd.R Kd.string 9 w' w.heap.size (fun _=>True) v3 x3_1)∧Aside0 (w'.heap[gb171]? =some (.cells #[.string a0_0,(.slice A0_1 l0_1.length c0_1),.int .i64 a0_2,(.slice A0_3 l0_3.length c0_3),.int .i64 a0_4] 43 (0,0)))∧Aside0 (Below w.heap.size w w'))
  case atStart=>exact ⟨(t172),(0),(by first|rfl|(simp;done)|(simp [*];done)),H',⟨Nat.le_refl _⟩,⟨by (with_reducible repeat (first|apply Kd.R_alloc|apply Kd.R_drewN|apply Kd.R_drew));exact HO174.out⟩,⟨by (with_reducible repeat (first|refine blk_drewN ?_ _|refine blk_drew ?_|refine blk_alloc ?_ _));exact BK171.out⟩,⟨by repeat (first|(with_reducible first|exact HB.out|apply below_alloc|apply pw_below_drewN|apply below_drew1|refine below_set ?_ GE171.out)|exact HB.out)⟩⟩
  case round=>
    clear H'
    try clear c1
    try clear p2
    try clear hcz4_0
    try clear hcz4_1
    try clear hcz4_2
    try clear hcz4_3
    try clear hcz4_4
    try clear hcz6_0
    try clear hcz6_1
    try clear hcz6_2
    try clear hcz6_3
    try clear hcz6_4
    try clear hfz4_0
    try clear hfz4_1
    try clear hfz4_2
    try clear hfz4_3
    try clear hfz4_4
    try clear hfz6_0
    try clear hfz6_1
    try clear hfz6_2
    try clear hfz6_3
    try clear hfz6_4
    obtain ⟨x3_1,x15_1,rfl,HA,HK1,HO_3,BK171,HB⟩:=hrel
    cases gk with
    |zero=>exact absurd HA.out (by simp [syntax_Rule_Vars.l0])
    |succ k1=>
      have H:=HA.out
      clear HA
      simp only [syntax_Rule_Vars.l0] at H
      by_cases c7:x15_1<(l0_3.length:Int)
      · rw [if_pos c7] at H
        have c7b0:decide (x15_1<(l0_3.length:Int))=true:=decide_eq_true c7
        clear c7
        by_cases c8:0≤x15_1
        · rw [if_pos c8] at H
          have c8b0:decide (0≤x15_1)=true:=decide_eq_true c8
          clear c8
          by_cases c9:x15_1<(l0_3.length:Int)
          · rw [if_pos c9] at H
            have c9b0:decide (x15_1<(l0_3.length:Int))=true:=decide_eq_true c9
            clear c9
            replace H:=Option.bind_eq_some_iff.mp H
            obtain ⟨t177,A100,H⟩:=H
            replace H:(if x3_1.length+t177.length<8796093022208 then (syntax_Rule_Vars.l0 k1 (x3_1++t177) l0_3 (l0_3.length:Int) (wrap64 (x15_1+1))) else (none))=some r:=H
            have A10:=Aside0.mk A100
            clear A100
            by_cases c11:x3_1.length+t177.length<8796093022208
            · rw [if_pos c11] at H
              have LMc11:=Aside0.mk c11
              clear c11
              obtain ⟨y180,hy180⟩:∃y_:List ByteArray,y_=(x3_1++t177):=⟨_,rfl⟩
              replace H:(syntax_Rule_Vars.l0 k1 y180 l0_3 (l0_3.length:Int) (wrap64 (x15_1+1)))=some r:=by first|(rw [hy180];with_reducible exact H)|(have H2_:=(Option.bind_some _ _).symm.trans H;rw [hy180];with_reducible exact H2_)|(have H2_:=(Option.bind_some _ _).symm.trans H;with_reducible exact H2_)|with_reducible exact H|(rw [hy180];exact H)|exact H
              have Ny180:=Aside0.mk hy180
              clear hy180
              have H':=Aside0.mk H
              clear H
              have p175:0≤(x15_1:Int):=of_decide_eq_true (by first|(with_reducible assumption)|assumption)
              have q175:x15_1<(l0_3.length:Int):=of_decide_eq_true (by first|(with_reducible assumption)|assumption)
              obtain ⟨ad175,A175_2,c175_2,A175_15,c175_15,e175,hx175_0,hx175_1,hx175_2,hx175_3,hx175_4,hx175_5,hx175_6,hx175_7,hx175_8,hx175_9,hx175_10,hx175_11,hx175_12,hx175_13,hx175_14,hx175_15,hl175_2,hi175_2,hl175_15,hi175_15⟩:=at_T59 HR0_3.out x15_1 p175 q175
              cases e175
              replace hx175_0:=(HB.out.cell (World.block_lt_of_cell? w _ hx175_0)).trans hx175_0
              replace hx175_1:=(HB.out.cell (World.block_lt_of_cell? w _ hx175_1)).trans hx175_1
              replace hx175_2:=(HB.out.cell (World.block_lt_of_cell? w _ hx175_2)).trans hx175_2
              replace hx175_3:=(HB.out.cell (World.block_lt_of_cell? w _ hx175_3)).trans hx175_3
              replace hx175_4:=(HB.out.cell (World.block_lt_of_cell? w _ hx175_4)).trans hx175_4
              replace hx175_5:=(HB.out.cell (World.block_lt_of_cell? w _ hx175_5)).trans hx175_5
              replace hx175_6:=(HB.out.cell (World.block_lt_of_cell? w _ hx175_6)).trans hx175_6
              replace hx175_7:=(HB.out.cell (World.block_lt_of_cell? w _ hx175_7)).trans hx175_7
              replace hx175_8:=(HB.out.cell (World.block_lt_of_cell? w _ hx175_8)).trans hx175_8
              replace hx175_9:=(HB.out.cell (World.block_lt_of_cell? w _ hx175_9)).trans hx175_9
              replace hx175_10:=(HB.out.cell (World.block_lt_of_cell? w _ hx175_10)).trans hx175_10
              replace hx175_11:=(HB.out.cell (World.block_lt_of_cell? w _ hx175_11)).trans hx175_11
              replace hx175_12:=(HB.out.cell (World.block_lt_of_cell? w _ hx175_12)).trans hx175_12
              replace hx175_13:=(HB.out.cell (World.block_lt_of_cell? w _ hx175_13)).trans hx175_13
              replace hx175_14:=(HB.out.cell (World.block_lt_of_cell? w _ hx175_14)).trans hx175_14
              replace hx175_15:=(HB.out.cell (World.block_lt_of_cell? w _ hx175_15)).trans hx175_15
              have HR175_2:=Aside0.mk hi175_2
              have HC175_2:=Aside0.mk hl175_2
              clear hi175_2 hl175_2
              have HR175_15:=Aside0.mk hi175_15
              have HC175_15:=Aside0.mk hl175_15
              clear hi175_15 hl175_15
              replace p175:=eq_true p175
              replace q175:=eq_true q175
              go_wp2_with (first|((with_reducible refine gate_dst (N:=5) rfl ?_);refine box_event ?hg (N:=5) ?hd (cs:= #[.int .i64 0,.string (⟨#[]⟩:ByteArray),.slice none 0 0,.int .i64 0,.int .i64 0,.string (⟨#[]⟩:ByteArray),.int .i64 0,.int .i64 0,.string (⟨#[]⟩:ByteArray),.int .i64 0,.string (⟨#[]⟩:ByteArray),.int .i64 0,.string (⟨#[]⟩:ByteArray),.int .i64 0,.int .i64 0,.slice none 0 0]) (t:=59) ?hr ?_;(case hd=>rfl);(case hg=>rfl);(case hr=>first|(go_simp;done)|(go_simp;rfl));intro gb176 hg w12 hbox hb;have n0_:=Aside0.mk (Kd.R_below (by (with_reducible repeat (first|apply Kd.R_alloc|apply Kd.R_drewN|apply Kd.R_drew));exact HO_3.out) hb);have n1_:=Aside0.mk (blk_below (g:=gb171) (o:= .cells #[.string a0_0,.slice A0_1 l0_1.length c0_1,.int .i64 a0_2,.slice (some ad175) l0_3.length c0_3,.int .i64 a0_4] 43 (0,0)) (by (with_reducible repeat (first|refine blk_drewN ?_ _|refine blk_drew ?_|refine blk_alloc ?_ _));exact BK171.out) hb);have n2_:=Aside0.mk (below_step (by repeat (first|(with_reducible first|exact HB.out|apply below_alloc|apply pw_below_drewN|apply below_drew1|refine below_set ?_ GE171.out)|exact HB.out)) hb);have n3_:=Aside0.mk (hbox);have n4_:=Aside0.mk ((by rw [hg];exact (below_size (by repeat (first|(with_reducible first|exact HB.out|apply below_alloc|apply pw_below_drewN|apply below_drew1|refine below_set ?_ GE171.out)|exact HB.out))):w.heap.size≤gb176));have n5_:=Aside0.mk ((by rw [hg];exact (below_size (by repeat (first|(with_reducible first|exact HB.out|apply below_alloc|apply pw_below_drewN|apply below_drew1|refine below_set ?_ GE171.out)|exact HB.out))):w.heap.size≤gb176));have n6_:=Aside0.mk ((by rw [hg];exact Nat.ne_of_lt (blk_lt (g:=gb171) (o:= .cells #[.string a0_0,.slice A0_1 l0_1.length c0_1,.int .i64 a0_2,.slice (some ad175) l0_3.length c0_3,.int .i64 a0_4] 43 (0,0)) (by (with_reducible repeat (first|refine blk_drewN ?_ _|refine blk_drew ?_|refine blk_alloc ?_ _));exact BK171.out)):gb171≠gb176));have n7_:=Aside0.mk ((by rw [hg];exact Nat.ne_of_gt (blk_lt (g:=gb171) (o:= .cells #[.string a0_0,.slice A0_1 l0_1.length c0_1,.int .i64 a0_2,.slice (some ad175) l0_3.length c0_3,.int .i64 a0_4] 43 (0,0)) (by (with_reducible repeat (first|refine blk_drewN ?_ _|refine blk_drew ?_|refine blk_alloc ?_ _));exact BK171.out)):gb176≠gb171));clear HO_3;clear BK171;clear HB;have HO_3:=n0_;have BK171:=n1_;have HB:=n2_;have BK176:=n3_;have GW176:=n4_;have GE176:=n5_;have NB171_176:=n6_;have NB176_171:=n7_;clear n0_ n1_ n2_ n3_ n4_ n5_ n6_ n7_;clear hb hbox hg;have hnb13:=NB176_171.out;have hnc13:=NB171_176.out;have hcz14_0:w12.cell? ⟨gb176,0,none⟩=some (.int .i64 0):=(blk_cell BK176.out 0).trans rfl;have hcz14_1:w12.cell? ⟨gb176,1,none⟩=some (.string (⟨#[]⟩:ByteArray)):=(blk_cell BK176.out 1).trans rfl;have hcz14_2:w12.cell? ⟨gb176,2,none⟩=some (.slice none 0 0):=(blk_cell BK176.out 2).trans rfl;have hcz14_3:w12.cell? ⟨gb176,3,none⟩=some (.int .i64 0):=(blk_cell BK176.out 3).trans rfl;have hcz14_4:w12.cell? ⟨gb176,4,none⟩=some (.int .i64 0):=(blk_cell BK176.out 4).trans rfl;have hcz14_5:w12.cell? ⟨gb176,5,none⟩=some (.string (⟨#[]⟩:ByteArray)):=(blk_cell BK176.out 5).trans rfl;have hcz14_6:w12.cell? ⟨gb176,6,none⟩=some (.int .i64 0):=(blk_cell BK176.out 6).trans rfl;have hcz14_7:w12.cell? ⟨gb176,7,none⟩=some (.int .i64 0):=(blk_cell BK176.out 7).trans rfl;have hcz14_8:w12.cell? ⟨gb176,8,none⟩=some (.string (⟨#[]⟩:ByteArray)):=(blk_cell BK176.out 8).trans rfl;have hcz14_9:w12.cell? ⟨gb176,9,none⟩=some (.int .i64 0):=(blk_cell BK176.out 9).trans rfl;have hcz14_10:w12.cell? ⟨gb176,10,none⟩=some (.string (⟨#[]⟩:ByteArray)):=(blk_cell BK176.out 10).trans rfl;have hcz14_11:w12.cell? ⟨gb176,11,none⟩=some (.int .i64 0):=(blk_cell BK176.out 11).trans rfl;have hcz14_12:w12.cell? ⟨gb176,12,none⟩=some (.string (⟨#[]⟩:ByteArray)):=(blk_cell BK176.out 12).trans rfl;have hcz14_13:w12.cell? ⟨gb176,13,none⟩=some (.int .i64 0):=(blk_cell BK176.out 13).trans rfl;have hcz14_14:w12.cell? ⟨gb176,14,none⟩=some (.int .i64 0):=(blk_cell BK176.out 14).trans rfl;have hcz14_15:w12.cell? ⟨gb176,15,none⟩=some (.slice none 0 0):=(blk_cell BK176.out 15).trans rfl;have hfz14_0:=blk_frozen BK176.out 0;have hfz14_1:=blk_frozen BK176.out 1;have hfz14_2:=blk_frozen BK176.out 2;have hfz14_3:=blk_frozen BK176.out 3;have hfz14_4:=blk_frozen BK176.out 4;have hfz14_5:=blk_frozen BK176.out 5;have hfz14_6:=blk_frozen BK176.out 6;have hfz14_7:=blk_frozen BK176.out 7;have hfz14_8:=blk_frozen BK176.out 8;have hfz14_9:=blk_frozen BK176.out 9;have hfz14_10:=blk_frozen BK176.out 10;have hfz14_11:=blk_frozen BK176.out 11;have hfz14_12:=blk_frozen BK176.out 12;have hfz14_13:=blk_frozen BK176.out 13;have hfz14_14:=blk_frozen BK176.out 14;have hfz14_15:=blk_frozen BK176.out 15)|((with_reducible refine gate_callee (f:=15) rfl ?_);refine goesL_ (some 21) rfl rfl Tryd.func15 (by kernel_rfl) rfl #[.agg #[.int .i64 ((rd_T59 l0_3 x15_1).f0),.string ((rd_T59 l0_3 x15_1).f1.f0),.slice A175_2 ((rd_T59 l0_3 x15_1).f1.f1).length c175_2,.int .i64 ((rd_T59 l0_3 x15_1).f2),.int .i64 ((rd_T59 l0_3 x15_1).f3.f0),.string ((rd_T59 l0_3 x15_1).f3.f1),.int .i64 ((rd_T59 l0_3 x15_1).f3.f2),.int .i64 ((rd_T59 l0_3 x15_1).f4.f0),.string ((rd_T59 l0_3 x15_1).f4.f1),.int .i64 ((rd_T59 l0_3 x15_1).f4.f2),.string ((rd_T59 l0_3 x15_1).f5),.int .i64 ((rd_T59 l0_3 x15_1).f6.f0.f0),.string ((rd_T59 l0_3 x15_1).f6.f0.f1),.int .i64 ((rd_T59 l0_3 x15_1).f6.f0.f2),.int .i64 ((rd_T59 l0_3 x15_1).f6.f1),.slice A175_15 ((rd_T59 l0_3 x15_1).f6.f2).length c175_15]] rfl (by (try simp only [List.map_toArray,List.map_cons,List.map_nil]);first|done|rfl|(simp only [List.length_drop,List.length_take];rfl)) ?_;(with_reducible refine (syntax_Part_Vars.calls k1 ((rd_T59 l0_3 x15_1).f0) ((rd_T59 l0_3 x15_1).f1.f0) _ _ ((rd_T59 l0_3 x15_1).f1.f1) ((rd_T59 l0_3 x15_1).f2) ((rd_T59 l0_3 x15_1).f3.f0) ((rd_T59 l0_3 x15_1).f3.f1) ((rd_T59 l0_3 x15_1).f3.f2) ((rd_T59 l0_3 x15_1).f4.f0) ((rd_T59 l0_3 x15_1).f4.f1) ((rd_T59 l0_3 x15_1).f4.f2) ((rd_T59 l0_3 x15_1).f5) ((rd_T59 l0_3 x15_1).f6.f0.f0) ((rd_T59 l0_3 x15_1).f6.f0.f1) ((rd_T59 l0_3 x15_1).f6.f0.f2) ((rd_T59 l0_3 x15_1).f6.f1) _ _ ((rd_T59 l0_3 x15_1).f6.f2) t177 _ ?side1 ?side2 ?side3 ?side4 A10.out).mono ?_);(case side1=>exact Kd.C_below HR175_2.out (by repeat (first|(with_reducible first|exact HB.out|apply below_alloc|apply pw_below_drewN|apply below_drew1|refine below_set ?_ GE171.out|refine below_set ?_ GE176.out)|exact HB.out)));(case side2=>exact HC175_2.out);(case side3=>exact Kd.C_below HR175_15.out (by repeat (first|(with_reducible first|exact HB.out|apply below_alloc|apply pw_below_drewN|apply below_drew1|refine below_set ?_ GE171.out|refine below_set ?_ GE176.out)|exact HB.out)));(case side4=>exact HC175_15.out);rintro e w15 ⟨v178,rfl,ho0,hb⟩;refine ⟨_,rfl,?_⟩;have n0_:=Aside0.mk (Kd.R_elder' (by (with_reducible repeat (first|apply Kd.R_alloc|apply Kd.R_drewN|apply Kd.R_drew));exact (Kd.R_mono (Kd.R_far (p:=⟨gb176,15,none⟩) (Kd.R_far (p:=⟨gb176,14,none⟩) (Kd.R_far (p:=⟨gb176,13,none⟩) (Kd.R_far (p:=⟨gb176,12,none⟩) (Kd.R_far (p:=⟨gb176,11,none⟩) (Kd.R_far (p:=⟨gb176,10,none⟩) (Kd.R_far (p:=⟨gb176,9,none⟩) (Kd.R_far (p:=⟨gb176,8,none⟩) (Kd.R_far (p:=⟨gb176,7,none⟩) (Kd.R_far (p:=⟨gb176,6,none⟩) (Kd.R_far (p:=⟨gb176,5,none⟩) (Kd.R_far (p:=⟨gb176,4,none⟩) (Kd.R_far (p:=⟨gb176,3,none⟩) (Kd.R_far (p:=⟨gb176,2,none⟩) (Kd.R_far (p:=⟨gb176,1,none⟩) (Kd.R_far (p:=⟨gb176,0,none⟩) (Kd.R_types HO_3.out BK176.out (by decide)) (fun _ hk=>hk.2) (.int .i64 ((rd_T59 l0_3 x15_1).f0))) (fun _ hk=>hk.2) (.string ((rd_T59 l0_3 x15_1).f1.f0))) (fun _ hk=>hk.2) (.slice A175_2 ((rd_T59 l0_3 x15_1).f1.f1).length c175_2)) (fun _ hk=>hk.2) (.int .i64 ((rd_T59 l0_3 x15_1).f2))) (fun _ hk=>hk.2) (.int .i64 ((rd_T59 l0_3 x15_1).f3.f0))) (fun _ hk=>hk.2) (.string ((rd_T59 l0_3 x15_1).f3.f1))) (fun _ hk=>hk.2) (.int .i64 ((rd_T59 l0_3 x15_1).f3.f2))) (fun _ hk=>hk.2) (.int .i64 ((rd_T59 l0_3 x15_1).f4.f0))) (fun _ hk=>hk.2) (.string ((rd_T59 l0_3 x15_1).f4.f1))) (fun _ hk=>hk.2) (.int .i64 ((rd_T59 l0_3 x15_1).f4.f2))) (fun _ hk=>hk.2) (.string ((rd_T59 l0_3 x15_1).f5))) (fun _ hk=>hk.2) (.int .i64 ((rd_T59 l0_3 x15_1).f6.f0.f0))) (fun _ hk=>hk.2) (.string ((rd_T59 l0_3 x15_1).f6.f0.f1))) (fun _ hk=>hk.2) (.int .i64 ((rd_T59 l0_3 x15_1).f6.f0.f2))) (fun _ hk=>hk.2) (.int .i64 ((rd_T59 l0_3 x15_1).f6.f1))) (fun _ hk=>hk.2) (.slice A175_15 ((rd_T59 l0_3 x15_1).f6.f2).length c175_15)) (fun _ h_=>h_.1))) (Kd.R_base ho0) hb);have n1_:=Aside0.mk (Kd.R_lower (Kd.R_new' ho0 (Kd.R_lt (by (with_reducible repeat (first|apply Kd.R_alloc|apply Kd.R_drewN|apply Kd.R_drew));exact (Kd.R_mono (Kd.R_far (p:=⟨gb176,15,none⟩) (Kd.R_far (p:=⟨gb176,14,none⟩) (Kd.R_far (p:=⟨gb176,13,none⟩) (Kd.R_far (p:=⟨gb176,12,none⟩) (Kd.R_far (p:=⟨gb176,11,none⟩) (Kd.R_far (p:=⟨gb176,10,none⟩) (Kd.R_far (p:=⟨gb176,9,none⟩) (Kd.R_far (p:=⟨gb176,8,none⟩) (Kd.R_far (p:=⟨gb176,7,none⟩) (Kd.R_far (p:=⟨gb176,6,none⟩) (Kd.R_far (p:=⟨gb176,5,none⟩) (Kd.R_far (p:=⟨gb176,4,none⟩) (Kd.R_far (p:=⟨gb176,3,none⟩) (Kd.R_far (p:=⟨gb176,2,none⟩) (Kd.R_far (p:=⟨gb176,1,none⟩) (Kd.R_far (p:=⟨gb176,0,none⟩) (Kd.R_types HO_3.out BK176.out (by decide)) (fun _ hk=>hk.2) (.int .i64 ((rd_T59 l0_3 x15_1).f0))) (fun _ hk=>hk.2) (.string ((rd_T59 l0_3 x15_1).f1.f0))) (fun _ hk=>hk.2) (.slice A175_2 ((rd_T59 l0_3 x15_1).f1.f1).length c175_2)) (fun _ hk=>hk.2) (.int .i64 ((rd_T59 l0_3 x15_1).f2))) (fun _ hk=>hk.2) (.int .i64 ((rd_T59 l0_3 x15_1).f3.f0))) (fun _ hk=>hk.2) (.string ((rd_T59 l0_3 x15_1).f3.f1))) (fun _ hk=>hk.2) (.int .i64 ((rd_T59 l0_3 x15_1).f3.f2))) (fun _ hk=>hk.2) (.int .i64 ((rd_T59 l0_3 x15_1).f4.f0))) (fun _ hk=>hk.2) (.string ((rd_T59 l0_3 x15_1).f4.f1))) (fun _ hk=>hk.2) (.int .i64 ((rd_T59 l0_3 x15_1).f4.f2))) (fun _ hk=>hk.2) (.string ((rd_T59 l0_3 x15_1).f5))) (fun _ hk=>hk.2) (.int .i64 ((rd_T59 l0_3 x15_1).f6.f0.f0))) (fun _ hk=>hk.2) (.string ((rd_T59 l0_3 x15_1).f6.f0.f1))) (fun _ hk=>hk.2) (.int .i64 ((rd_T59 l0_3 x15_1).f6.f0.f2))) (fun _ hk=>hk.2) (.int .i64 ((rd_T59 l0_3 x15_1).f6.f1))) (fun _ hk=>hk.2) (.slice A175_15 ((rd_T59 l0_3 x15_1).f6.f2).length c175_15)) (fun _ h_=>h_.1))))) (below_size (by repeat (first|(with_reducible first|exact HB.out|apply below_alloc|apply pw_below_drewN|apply below_drew1|refine below_set ?_ GE171.out|refine below_set ?_ GE176.out)|exact HB.out))));have n2_:=Aside0.mk (blk_below (g:=gb171) (o:= .cells #[.string a0_0,.slice A0_1 l0_1.length c0_1,.int .i64 a0_2,.slice (some ad175) l0_3.length c0_3,.int .i64 a0_4] 43 (0,0)) (by (with_reducible repeat (first|refine blk_drewN ?_ _|refine blk_drew ?_|refine blk_alloc ?_ _));refine blk_far ?_ NB171_176.out _;(with_reducible repeat (first|refine blk_drewN ?_ _|refine blk_drew ?_|refine blk_alloc ?_ _));refine blk_far ?_ NB171_176.out _;(with_reducible repeat (first|refine blk_drewN ?_ _|refine blk_drew ?_|refine blk_alloc ?_ _));refine blk_far ?_ NB171_176.out _;(with_reducible repeat (first|refine blk_drewN ?_ _|refine blk_drew ?_|refine blk_alloc ?_ _));refine blk_far ?_ NB171_176.out _;(with_reducible repeat (first|refine blk_drewN ?_ _|refine blk_drew ?_|refine blk_alloc ?_ _));refine blk_far ?_ NB171_176.out _;(with_reducible repeat (first|refine blk_drewN ?_ _|refine blk_drew ?_|refine blk_alloc ?_ _));refine blk_far ?_ NB171_176.out _;(with_reducible repeat (first|refine blk_drewN ?_ _|refine blk_drew ?_|refine blk_alloc ?_ _));refine blk_far ?_ NB171_176.out _;(with_reducible repeat (first|refine blk_drewN ?_ _|refine blk_drew ?_|refine blk_alloc ?_ _));refine blk_far ?_ NB171_176.out _;(with_reducible repeat (first|refine blk_drewN ?_ _|refine blk_drew ?_|refine blk_alloc ?_ _));refine blk_far ?_ NB171_176.out _;(with_reducible repeat (first|refine blk_drewN ?_ _|refine blk_drew ?_|refine blk_alloc ?_ _));refine blk_far ?_ NB171_176.out _;(with_reducible repeat (first|refine blk_drewN ?_ _|refine blk_drew ?_|refine blk_alloc ?_ _));refine blk_far ?_ NB171_176.out _;(with_reducible repeat (first|refine blk_drewN ?_ _|refine blk_drew ?_|refine blk_alloc ?_ _));refine blk_far ?_ NB171_176.out _;(with_reducible repeat (first|refine blk_drewN ?_ _|refine blk_drew ?_|refine blk_alloc ?_ _));refine blk_far ?_ NB171_176.out _;(with_reducible repeat (first|refine blk_drewN ?_ _|refine blk_drew ?_|refine blk_alloc ?_ _));refine blk_far ?_ NB171_176.out _;(with_reducible repeat (first|refine blk_drewN ?_ _|refine blk_drew ?_|refine blk_alloc ?_ _));refine blk_far ?_ NB171_176.out _;(with_reducible repeat (first|refine blk_drewN ?_ _|refine blk_drew ?_|refine blk_alloc ?_ _));refine blk_far ?_ NB171_176.out _;(with_reducible repeat (first|refine blk_drewN ?_ _|refine blk_drew ?_|refine blk_alloc ?_ _));exact BK171.out) hb);have n3_:=Aside0.mk (blk_below (g:=gb176) (o:= .cells #[.int .i64 ((rd_T59 l0_3 x15_1).f0),.string ((rd_T59 l0_3 x15_1).f1.f0),.slice A175_2 ((rd_T59 l0_3 x15_1).f1.f1).length c175_2,.int .i64 ((rd_T59 l0_3 x15_1).f2),.int .i64 ((rd_T59 l0_3 x15_1).f3.f0),.string ((rd_T59 l0_3 x15_1).f3.f1),.int .i64 ((rd_T59 l0_3 x15_1).f3.f2),.int .i64 ((rd_T59 l0_3 x15_1).f4.f0),.string ((rd_T59 l0_3 x15_1).f4.f1),.int .i64 ((rd_T59 l0_3 x15_1).f4.f2),.string ((rd_T59 l0_3 x15_1).f5),.int .i64 ((rd_T59 l0_3 x15_1).f6.f0.f0),.string ((rd_T59 l0_3 x15_1).f6.f0.f1),.int .i64 ((rd_T59 l0_3 x15_1).f6.f0.f2),.int .i64 ((rd_T59 l0_3 x15_1).f6.f1),.slice A175_15 ((rd_T59 l0_3 x15_1).f6.f2).length c175_15] 59 (0,0)) (by (with_reducible repeat (first|refine blk_drewN ?_ _|refine blk_drew ?_|refine blk_alloc ?_ _));refine blk_put (cs:= #[.int .i64 ((rd_T59 l0_3 x15_1).f0),.string ((rd_T59 l0_3 x15_1).f1.f0),.slice A175_2 ((rd_T59 l0_3 x15_1).f1.f1).length c175_2,.int .i64 ((rd_T59 l0_3 x15_1).f2),.int .i64 ((rd_T59 l0_3 x15_1).f3.f0),.string ((rd_T59 l0_3 x15_1).f3.f1),.int .i64 ((rd_T59 l0_3 x15_1).f3.f2),.int .i64 ((rd_T59 l0_3 x15_1).f4.f0),.string ((rd_T59 l0_3 x15_1).f4.f1),.int .i64 ((rd_T59 l0_3 x15_1).f4.f2),.string ((rd_T59 l0_3 x15_1).f5),.int .i64 ((rd_T59 l0_3 x15_1).f6.f0.f0),.string ((rd_T59 l0_3 x15_1).f6.f0.f1),.int .i64 ((rd_T59 l0_3 x15_1).f6.f0.f2),.int .i64 ((rd_T59 l0_3 x15_1).f6.f1),.slice none 0 0]) ?_ 15 _ rfl;(with_reducible repeat (first|refine blk_drewN ?_ _|refine blk_drew ?_|refine blk_alloc ?_ _));refine blk_put (cs:= #[.int .i64 ((rd_T59 l0_3 x15_1).f0),.string ((rd_T59 l0_3 x15_1).f1.f0),.slice A175_2 ((rd_T59 l0_3 x15_1).f1.f1).length c175_2,.int .i64 ((rd_T59 l0_3 x15_1).f2),.int .i64 ((rd_T59 l0_3 x15_1).f3.f0),.string ((rd_T59 l0_3 x15_1).f3.f1),.int .i64 ((rd_T59 l0_3 x15_1).f3.f2),.int .i64 ((rd_T59 l0_3 x15_1).f4.f0),.string ((rd_T59 l0_3 x15_1).f4.f1),.int .i64 ((rd_T59 l0_3 x15_1).f4.f2),.string ((rd_T59 l0_3 x15_1).f5),.int .i64 ((rd_T59 l0_3 x15_1).f6.f0.f0),.string ((rd_T59 l0_3 x15_1).f6.f0.f1),.int .i64 ((rd_T59 l0_3 x15_1).f6.f0.f2),.int .i64 0,.slice none 0 0]) ?_ 14 _ rfl;(with_reducible repeat (first|refine blk_drewN ?_ _|refine blk_drew ?_|refine blk_alloc ?_ _));refine blk_put (cs:= #[.int .i64 ((rd_T59 l0_3 x15_1).f0),.string ((rd_T59 l0_3 x15_1).f1.f0),.slice A175_2 ((rd_T59 l0_3 x15_1).f1.f1).length c175_2,.int .i64 ((rd_T59 l0_3 x15_1).f2),.int .i64 ((rd_T59 l0_3 x15_1).f3.f0),.string ((rd_T59 l0_3 x15_1).f3.f1),.int .i64 ((rd_T59 l0_3 x15_1).f3.f2),.int .i64 ((rd_T59 l0_3 x15_1).f4.f0),.string ((rd_T59 l0_3 x15_1).f4.f1),.int .i64 ((rd_T59 l0_3 x15_1).f4.f2),.string ((rd_T59 l0_3 x15_1).f5),.int .i64 ((rd_T59 l0_3 x15_1).f6.f0.f0),.string ((rd_T59 l0_3 x15_1).f6.f0.f1),.int .i64 0,.int .i64 0,.slice none 0 0]) ?_ 13 _ rfl;(with_reducible repeat (first|refine blk_drewN ?_ _|refine blk_drew ?_|refine blk_alloc ?_ _));refine blk_put (cs:= #[.int .i64 ((rd_T59 l0_3 x15_1).f0),.string ((rd_T59 l0_3 x15_1).f1.f0),.slice A175_2 ((rd_T59 l0_3 x15_1).f1.f1).length c175_2,.int .i64 ((rd_T59 l0_3 x15_1).f2),.int .i64 ((rd_T59 l0_3 x15_1).f3.f0),.string ((rd_T59 l0_3 x15_1).f3.f1),.int .i64 ((rd_T59 l0_3 x15_1).f3.f2),.int .i64 ((rd_T59 l0_3 x15_1).f4.f0),.string ((rd_T59 l0_3 x15_1).f4.f1),.int .i64 ((rd_T59 l0_3 x15_1).f4.f2),.string ((rd_T59 l0_3 x15_1).f5),.int .i64 ((rd_T59 l0_3 x15_1).f6.f0.f0),.string (⟨#[]⟩:ByteArray),.int .i64 0,.int .i64 0,.slice none 0 0]) ?_ 12 _ rfl;(with_reducible repeat (first|refine blk_drewN ?_ _|refine blk_drew ?_|refine blk_alloc ?_ _));refine blk_put (cs:= #[.int .i64 ((rd_T59 l0_3 x15_1).f0),.string ((rd_T59 l0_3 x15_1).f1.f0),.slice A175_2 ((rd_T59 l0_3 x15_1).f1.f1).length c175_2,.int .i64 ((rd_T59 l0_3 x15_1).f2),.int .i64 ((rd_T59 l0_3 x15_1).f3.f0),.string ((rd_T59 l0_3 x15_1).f3.f1),.int .i64 ((rd_T59 l0_3 x15_1).f3.f2),.int .i64 ((rd_T59 l0_3 x15_1).f4.f0),.string ((rd_T59 l0_3 x15_1).f4.f1),.int .i64 ((rd_T59 l0_3 x15_1).f4.f2),.string ((rd_T59 l0_3 x15_1).f5),.int .i64 0,.string (⟨#[]⟩:ByteArray),.int .i64 0,.int .i64 0,.slice none 0 0]) ?_ 11 _ rfl;(with_reducible repeat (first|refine blk_drewN ?_ _|refine blk_drew ?_|refine blk_alloc ?_ _));refine blk_put (cs:= #[.int .i64 ((rd_T59 l0_3 x15_1).f0),.string ((rd_T59 l0_3 x15_1).f1.f0),.slice A175_2 ((rd_T59 l0_3 x15_1).f1.f1).length c175_2,.int .i64 ((rd_T59 l0_3 x15_1).f2),.int .i64 ((rd_T59 l0_3 x15_1).f3.f0),.string ((rd_T59 l0_3 x15_1).f3.f1),.int .i64 ((rd_T59 l0_3 x15_1).f3.f2),.int .i64 ((rd_T59 l0_3 x15_1).f4.f0),.string ((rd_T59 l0_3 x15_1).f4.f1),.int .i64 ((rd_T59 l0_3 x15_1).f4.f2),.string (⟨#[]⟩:ByteArray),.int .i64 0,.string (⟨#[]⟩:ByteArray),.int .i64 0,.int .i64 0,.slice none 0 0]) ?_ 10 _ rfl;(with_reducible repeat (first|refine blk_drewN ?_ _|refine blk_drew ?_|refine blk_alloc ?_ _));refine blk_put (cs:= #[.int .i64 ((rd_T59 l0_3 x15_1).f0),.string ((rd_T59 l0_3 x15_1).f1.f0),.slice A175_2 ((rd_T59 l0_3 x15_1).f1.f1).length c175_2,.int .i64 ((rd_T59 l0_3 x15_1).f2),.int .i64 ((rd_T59 l0_3 x15_1).f3.f0),.string ((rd_T59 l0_3 x15_1).f3.f1),.int .i64 ((rd_T59 l0_3 x15_1).f3.f2),.int .i64 ((rd_T59 l0_3 x15_1).f4.f0),.string ((rd_T59 l0_3 x15_1).f4.f1),.int .i64 0,.string (⟨#[]⟩:ByteArray),.int .i64 0,.string (⟨#[]⟩:ByteArray),.int .i64 0,.int .i64 0,.slice none 0 0]) ?_ 9 _ rfl;(with_reducible repeat (first|refine blk_drewN ?_ _|refine blk_drew ?_|refine blk_alloc ?_ _));refine blk_put (cs:= #[.int .i64 ((rd_T59 l0_3 x15_1).f0),.string ((rd_T59 l0_3 x15_1).f1.f0),.slice A175_2 ((rd_T59 l0_3 x15_1).f1.f1).length c175_2,.int .i64 ((rd_T59 l0_3 x15_1).f2),.int .i64 ((rd_T59 l0_3 x15_1).f3.f0),.string ((rd_T59 l0_3 x15_1).f3.f1),.int .i64 ((rd_T59 l0_3 x15_1).f3.f2),.int .i64 ((rd_T59 l0_3 x15_1).f4.f0),.string (⟨#[]⟩:ByteArray),.int .i64 0,.string (⟨#[]⟩:ByteArray),.int .i64 0,.string (⟨#[]⟩:ByteArray),.int .i64 0,.int .i64 0,.slice none 0 0]) ?_ 8 _ rfl;(with_reducible repeat (first|refine blk_drewN ?_ _|refine blk_drew ?_|refine blk_alloc ?_ _));refine blk_put (cs:= #[.int .i64 ((rd_T59 l0_3 x15_1).f0),.string ((rd_T59 l0_3 x15_1).f1.f0),.slice A175_2 ((rd_T59 l0_3 x15_1).f1.f1).length c175_2,.int .i64 ((rd_T59 l0_3 x15_1).f2),.int .i64 ((rd_T59 l0_3 x15_1).f3.f0),.string ((rd_T59 l0_3 x15_1).f3.f1),.int .i64 ((rd_T59 l0_3 x15_1).f3.f2),.int .i64 0,.string (⟨#[]⟩:ByteArray),.int .i64 0,.string (⟨#[]⟩:ByteArray),.int .i64 0,.string (⟨#[]⟩:ByteArray),.int .i64 0,.int .i64 0,.slice none 0 0]) ?_ 7 _ rfl;(with_reducible repeat (first|refine blk_drewN ?_ _|refine blk_drew ?_|refine blk_alloc ?_ _));refine blk_put (cs:= #[.int .i64 ((rd_T59 l0_3 x15_1).f0),.string ((rd_T59 l0_3 x15_1).f1.f0),.slice A175_2 ((rd_T59 l0_3 x15_1).f1.f1).length c175_2,.int .i64 ((rd_T59 l0_3 x15_1).f2),.int .i64 ((rd_T59 l0_3 x15_1).f3.f0),.string ((rd_T59 l0_3 x15_1).f3.f1),.int .i64 0,.int .i64 0,.string (⟨#[]⟩:ByteArray),.int .i64 0,.string (⟨#[]⟩:ByteArray),.int .i64 0,.string (⟨#[]⟩:ByteArray),.int .i64 0,.int .i64 0,.slice none 0 0]) ?_ 6 _ rfl;(with_reducible repeat (first|refine blk_drewN ?_ _|refine blk_drew ?_|refine blk_alloc ?_ _));refine blk_put (cs:= #[.int .i64 ((rd_T59 l0_3 x15_1).f0),.string ((rd_T59 l0_3 x15_1).f1.f0),.slice A175_2 ((rd_T59 l0_3 x15_1).f1.f1).length c175_2,.int .i64 ((rd_T59 l0_3 x15_1).f2),.int .i64 ((rd_T59 l0_3 x15_1).f3.f0),.string (⟨#[]⟩:ByteArray),.int .i64 0,.int .i64 0,.string (⟨#[]⟩:ByteArray),.int .i64 0,.string (⟨#[]⟩:ByteArray),.int .i64 0,.string (⟨#[]⟩:ByteArray),.int .i64 0,.int .i64 0,.slice none 0 0]) ?_ 5 _ rfl;(with_reducible repeat (first|refine blk_drewN ?_ _|refine blk_drew ?_|refine blk_alloc ?_ _));refine blk_put (cs:= #[.int .i64 ((rd_T59 l0_3 x15_1).f0),.string ((rd_T59 l0_3 x15_1).f1.f0),.slice A175_2 ((rd_T59 l0_3 x15_1).f1.f1).length c175_2,.int .i64 ((rd_T59 l0_3 x15_1).f2),.int .i64 0,.string (⟨#[]⟩:ByteArray),.int .i64 0,.int .i64 0,.string (⟨#[]⟩:ByteArray),.int .i64 0,.string (⟨#[]⟩:ByteArray),.int .i64 0,.string (⟨#[]⟩:ByteArray),.int .i64 0,.int .i64 0,.slice none 0 0]) ?_ 4 _ rfl;(with_reducible repeat (first|refine blk_drewN ?_ _|refine blk_drew ?_|refine blk_alloc ?_ _));refine blk_put (cs:= #[.int .i64 ((rd_T59 l0_3 x15_1).f0),.string ((rd_T59 l0_3 x15_1).f1.f0),.slice A175_2 ((rd_T59 l0_3 x15_1).f1.f1).length c175_2,.int .i64 0,.int .i64 0,.string (⟨#[]⟩:ByteArray),.int .i64 0,.int .i64 0,.string (⟨#[]⟩:ByteArray),.int .i64 0,.string (⟨#[]⟩:ByteArray),.int .i64 0,.string (⟨#[]⟩:ByteArray),.int .i64 0,.int .i64 0,.slice none 0 0]) ?_ 3 _ rfl;(with_reducible repeat (first|refine blk_drewN ?_ _|refine blk_drew ?_|refine blk_alloc ?_ _));refine blk_put (cs:= #[.int .i64 ((rd_T59 l0_3 x15_1).f0),.string ((rd_T59 l0_3 x15_1).f1.f0),.slice none 0 0,.int .i64 0,.int .i64 0,.string (⟨#[]⟩:ByteArray),.int .i64 0,.int .i64 0,.string (⟨#[]⟩:ByteArray),.int .i64 0,.string (⟨#[]⟩:ByteArray),.int .i64 0,.string (⟨#[]⟩:ByteArray),.int .i64 0,.int .i64 0,.slice none 0 0]) ?_ 2 _ rfl;(with_reducible repeat (first|refine blk_drewN ?_ _|refine blk_drew ?_|refine blk_alloc ?_ _));refine blk_put (cs:= #[.int .i64 ((rd_T59 l0_3 x15_1).f0),.string (⟨#[]⟩:ByteArray),.slice none 0 0,.int .i64 0,.int .i64 0,.string (⟨#[]⟩:ByteArray),.int .i64 0,.int .i64 0,.string (⟨#[]⟩:ByteArray),.int .i64 0,.string (⟨#[]⟩:ByteArray),.int .i64 0,.string (⟨#[]⟩:ByteArray),.int .i64 0,.int .i64 0,.slice none 0 0]) ?_ 1 _ rfl;(with_reducible repeat (first|refine blk_drewN ?_ _|refine blk_drew ?_|refine blk_alloc ?_ _));refine blk_put (cs:= #[.int .i64 0,.string (⟨#[]⟩:ByteArray),.slice none 0 0,.int .i64 0,.int .i64 0,.string (⟨#[]⟩:ByteArray),.int .i64 0,.int .i64 0,.string (⟨#[]⟩:ByteArray),.int .i64 0,.string (⟨#[]⟩:ByteArray),.int .i64 0,.string (⟨#[]⟩:ByteArray),.int .i64 0,.int .i64 0,.slice none 0 0]) ?_ 0 _ rfl;(with_reducible repeat (first|refine blk_drewN ?_ _|refine blk_drew ?_|refine blk_alloc ?_ _));exact BK176.out) hb);have n4_:=Aside0.mk (below_step (by repeat (first|(with_reducible first|exact HB.out|apply below_alloc|apply pw_below_drewN|apply below_drew1|refine below_set ?_ GE171.out|refine below_set ?_ GE176.out)|exact HB.out)) hb);clear HO_3;clear BK171;clear BK176;clear HB;have HO_3:=n0_;have HO179:=n1_;have BK171:=n2_;have BK176:=n3_;have HB:=n4_;clear n0_ n1_ n2_ n3_ n4_;(try clear hb);(try clear hb2);(try clear hk);(try clear hi);(try clear ho0);obtain ⟨Ao17,co17,eo17⟩:=Kd.R_slice HO179.out;subst eo17)|((with_reducible refine gate_builtin (b:= .append) (xs:= #[.tmp 19,.tmp 21]) rfl ?_);at_builtin;refine Kd.R_append_rows Kd.string (w0:=w) w.heap.size rfl (.tmp 19) (.tmp 21) 45 9 (.string ⟨#[]⟩) 16 rfl Tryd.underlying45 info9 rfl (by decide) (by omega) u3 x3_1 t177 _ _ _ (fun k_=>some k_≠(.slice Ao17 t177.length co17:Value).ownBlock) (fun _=>False) rfl rfl ?aO ?aR (fun _ _ h=>h) (fun _ h=>h.elim) ?aF ?aB ?aS ?aL ?_;(case aR=>repeat (first|exact (Kd.R_reads' HO179.out).2.2|(with_reducible refine Kd.C_alloc ?_ _)|(with_reducible refine Kd.C_drewN ?_ _)|(with_reducible refine Kd.C_drew ?_)));(case aB=>exact (by repeat (first|(with_reducible first|exact HB.out|apply below_alloc|apply pw_below_drewN|apply below_drew1|refine below_set ?_ GE171.out|refine below_set ?_ GE176.out)|exact HB.out)));(case aF=>exact (fun k_ hk=>Kd.fresh' (Kd.R_lt (by (with_reducible repeat (first|apply Kd.R_alloc|apply Kd.R_drewN|apply Kd.R_drew));exact HO179.out)) k_ hk));(case aO=>exact (by (with_reducible repeat (first|apply Kd.R_alloc|apply Kd.R_drewN|apply Kd.R_drew));exact Kd.R_mono HO_3.out (fun _ hk=>hk.2)));(case aS=>exact (below_size (by repeat (first|(with_reducible first|exact HB.out|apply below_alloc|apply pw_below_drewN|apply below_drew1|refine below_set ?_ GE171.out|refine below_set ?_ GE176.out)|exact HB.out))));(case aL=>have:=LMc11.out;omega);intro v181 w16 ho hb hg hat;rw [←Ny180.out] at ho;have n0_:=Aside0.mk (blk_grown (g:=gb171) (o:= .cells #[.string a0_0,.slice A0_1 l0_1.length c0_1,.int .i64 a0_2,.slice (some ad175) l0_3.length c0_3,.int .i64 a0_4] 43 (0,0)) (by (with_reducible repeat (first|refine blk_drewN ?_ _|refine blk_drew ?_|refine blk_alloc ?_ _));exact BK171.out) hg (Kd.R_ne HO_3.out BK171.out (by decide)));have n1_:=Aside0.mk (blk_grown (g:=gb176) (o:= .cells #[.int .i64 ((rd_T59 l0_3 x15_1).f0),.string ((rd_T59 l0_3 x15_1).f1.f0),.slice A175_2 ((rd_T59 l0_3 x15_1).f1.f1).length c175_2,.int .i64 ((rd_T59 l0_3 x15_1).f2),.int .i64 ((rd_T59 l0_3 x15_1).f3.f0),.string ((rd_T59 l0_3 x15_1).f3.f1),.int .i64 ((rd_T59 l0_3 x15_1).f3.f2),.int .i64 ((rd_T59 l0_3 x15_1).f4.f0),.string ((rd_T59 l0_3 x15_1).f4.f1),.int .i64 ((rd_T59 l0_3 x15_1).f4.f2),.string ((rd_T59 l0_3 x15_1).f5),.int .i64 ((rd_T59 l0_3 x15_1).f6.f0.f0),.string ((rd_T59 l0_3 x15_1).f6.f0.f1),.int .i64 ((rd_T59 l0_3 x15_1).f6.f0.f2),.int .i64 ((rd_T59 l0_3 x15_1).f6.f1),.slice A175_15 ((rd_T59 l0_3 x15_1).f6.f2).length c175_15] 59 (0,0)) (by (with_reducible repeat (first|refine blk_drewN ?_ _|refine blk_drew ?_|refine blk_alloc ?_ _));exact BK176.out) hg (Kd.R_ne HO_3.out BK176.out (by decide)));have n2_:=Aside0.mk (Kd.R_after (ok:=(fun _=>True)) (by (with_reducible repeat (first|apply Kd.R_alloc|apply Kd.R_drewN|apply Kd.R_drew));exact HO179.out) hg hat);have n3_:=Aside0.mk (hb);have n4_:=Aside0.mk (ho);clear BK171;clear BK176;clear HO179;clear HB;clear HO_3;have BK171:=n0_;have BK176:=n1_;have HO179:=n2_;have HB:=n3_;have HO182:=n4_;clear n0_ n1_ n2_ n3_ n4_;clear ho hb hg hat))
              go_roundg k1
              case measure=>have:=HK1.out;omega
              case rel=>exact ⟨(y180),(wrap64 (x15_1+1)),(by first|rfl|(simp;done)|(simp [*];done)),H',⟨by have:=HK1.out;omega⟩,⟨by (with_reducible repeat (first|apply Kd.R_alloc|apply Kd.R_drewN|apply Kd.R_drew));exact Kd.R_mono HO182.out (fun _ hk=>trivial)⟩,⟨by (with_reducible repeat (first|refine blk_drewN ?_ _|refine blk_drew ?_|refine blk_alloc ?_ _));exact BK171.out⟩,⟨by repeat (first|(with_reducible first|exact HB.out|apply below_alloc|apply pw_below_drewN|apply below_drew1|refine below_set ?_ GE171.out|refine below_set ?_ GE176.out)|exact HB.out)⟩⟩
            · rw [if_neg c11] at H
              exact absurd H (by simp)
          · rw [if_neg c9] at H
            exact absurd H (by simp)
        · rw [if_neg c8] at H
          exact absurd H (by simp)
      · rw [if_neg c7] at H
        have c7b0:decide (x15_1<(l0_3.length:Int))=false:=decide_eq_false c7
        clear c7
        have H':=Aside0.mk H
        clear H
        obtain ⟨Ao18,co18,eo18⟩:=Kd.R_slice HO_3.out
        subst eo18
        go_wp2
        go_loopg [6,26] k1 (fun kq v6 v26 w'=>∃(x6_2:List ByteArray) (x26_2:Int),v26= .int .i64 x26_2∧Aside0 (syntax_Rule_Vars.l1 kq x6_2 x3_1 (x3_1.length:Int) x26_2=some r)∧Aside0 (kq≤k1)∧Aside0 (Kd.R Kd.string 9 w' w.heap.size (fun k_=>some k_≠((.slice Ao18 x3_1.length co18):Value).ownBlock) v6 x6_2)∧Aside0 (Kd.R Kd.string 9 w' w.heap.size (fun k_=>some k_≠(v6:Value).ownBlock) (.slice Ao18 x3_1.length co18) x3_1)∧Aside0 (w'.heap[gb171]? =some (.cells #[.string a0_0,(.slice A0_1 l0_1.length c0_1),.int .i64 a0_2,(.slice A0_3 l0_3.length c0_3),.int .i64 a0_4] 43 (0,0)))∧Aside0 (Below w.heap.size w w'))
        case atStart=>exact ⟨(([]:List ByteArray)),(0),(by first|rfl|(simp;done)|(simp [*];done)),H',⟨Nat.le_refl _⟩,⟨by first|exact Kd.R_nil _ _ _ _ _|exact Kd.N_nil _ _ _ _ _|exact Kd.V_nil _ _ _ _ _|exact Kd.Q_nil _ _ _ _ _|exact Kd.S_nil _ _ _ _ _⟩,⟨by (with_reducible repeat (first|apply Kd.R_alloc|apply Kd.R_drewN|apply Kd.R_drew));exact Kd.R_mono HO_3.out (fun _ hk=>(by simp [Value.ownBlock]))⟩,⟨by (with_reducible repeat (first|refine blk_drewN ?_ _|refine blk_drew ?_|refine blk_alloc ?_ _));exact BK171.out⟩,⟨by repeat (first|(with_reducible first|exact HB.out|apply below_alloc|apply pw_below_drewN|apply below_drew1|refine below_set ?_ GE171.out)|exact HB.out)⟩⟩
        case round=>
          clear H'
          try clear c1
          try clear p1
          try clear q1
          try clear hx1
          try clear p2
          try clear p6
          try clear c7
          try clear c7b0
          try clear c8
          try clear c8b0
          try clear c9
          try clear c9b0
          try clear c11
          try clear c13
          try clear c14
          try clear c15
          try clear c17
          try clear p17
          try clear q17
          try clear hx17
          try clear hcz14_0
          try clear hcz14_1
          try clear hcz14_10
          try clear hcz14_11
          try clear hcz14_12
          try clear hcz14_13
          try clear hcz14_14
          try clear hcz14_15
          try clear hcz14_2
          try clear hcz14_3
          try clear hcz14_4
          try clear hcz14_5
          try clear hcz14_6
          try clear hcz14_7
          try clear hcz14_8
          try clear hcz14_9
          try clear hcz4_0
          try clear hcz4_1
          try clear hcz4_2
          try clear hcz4_3
          try clear hcz4_4
          try clear hcz6_0
          try clear hcz6_1
          try clear hcz6_2
          try clear hcz6_3
          try clear hcz6_4
          try clear hfz14_0
          try clear hfz14_1
          try clear hfz14_10
          try clear hfz14_11
          try clear hfz14_12
          try clear hfz14_13
          try clear hfz14_14
          try clear hfz14_15
          try clear hfz14_2
          try clear hfz14_3
          try clear hfz14_4
          try clear hfz14_5
          try clear hfz14_6
          try clear hfz14_7
          try clear hfz14_8
          try clear hfz14_9
          try clear hfz4_0
          try clear hfz4_1
          try clear hfz4_2
          try clear hfz4_3
          try clear hfz4_4
          try clear hfz6_0
          try clear hfz6_1
          try clear hfz6_2
          try clear hfz6_3
          try clear hfz6_4
          try clear hx175_0
          try clear hx175_1
          try clear hx175_10
          try clear hx175_11
          try clear hx175_12
          try clear hx175_13
          try clear hx175_14
          try clear hx175_15
          try clear hx175_2
          try clear hx175_3
          try clear hx175_4
          try clear hx175_5
          try clear hx175_6
          try clear hx175_7
          try clear hx175_8
          try clear hx175_9
          try clear p175
          try clear p2
          try clear q175
          obtain ⟨x6_2,x26_2,rfl,HA,HK2,HO_6,HO_24,BK171,HB⟩:=hrel
          cases gk with
          |zero=>exact absurd HA.out (by simp [syntax_Rule_Vars.l1])
          |succ k2=>
            have H:=HA.out
            clear HA
            simp only [syntax_Rule_Vars.l1] at H
            by_cases c19:x26_2<(x3_1.length:Int)
            · rw [if_pos c19] at H
              have c19b0:decide (x26_2<(x3_1.length:Int))=true:=decide_eq_true c19
              clear c19
              by_cases c20:0≤x26_2
              · rw [if_pos c20] at H
                have c20b0:decide (0≤x26_2)=true:=decide_eq_true c20
                clear c20
                by_cases c21:x26_2<(x3_1.length:Int)
                · rw [if_pos c21] at H
                  have c21b0:decide (x26_2<(x3_1.length:Int))=true:=decide_eq_true c21
                  clear c21
                  replace H:=Option.bind_eq_some_iff.mp H
                  obtain ⟨t184,A220,H⟩:=H
                  replace H:(if t184=true then (syntax_Rule_Vars.l1 k2 x6_2 x3_1 (x3_1.length:Int) (wrap64 (x26_2+1))) else (if x6_2.length<8796093022208 then (syntax_Rule_Vars.l1 k2 (x6_2++[rdOf ByteArray.empty x3_1 x26_2]) x3_1 (x3_1.length:Int) (wrap64 (x26_2+1))) else (none)))=some r:=H
                  have A22:=Aside0.mk A220
                  clear A220
                  by_cases c23:t184=true
                  · subst c23
                    have H1:(syntax_Rule_Vars.l1 k2 x6_2 x3_1 (x3_1.length:Int) (wrap64 (x26_2+1)))=some r:=by rw [if_pos rfl] at H;exact H
                    clear H
                    have H:=H1
                    clear H1
                    have H':=Aside0.mk H
                    clear H
                    have p183:0≤(x26_2:Int):=of_decide_eq_true (by first|(with_reducible assumption)|assumption)
                    have q183:x26_2<(x3_1.length:Int):=of_decide_eq_true (by first|(with_reducible assumption)|assumption)
                    obtain ⟨ad183,e183,hx183_0⟩:=Kd.at_string (Kd.R_reads' HO_24.out).2.2 x26_2 p183 q183
                    cases e183
                    replace p183:=eq_true p183
                    replace q183:=eq_true q183
                    obtain ⟨Ao24,co24,eo24⟩:=Kd.R_slice HO_6.out
                    subst eo24
                    go_wp2_with (first|((with_reducible refine gate_callee (f:=35) rfl ?_);refine goesL_ (some 32) rfl rfl Tryd.func35 (by kernel_rfl) rfl #[.slice Ao24 x6_2.length co24,.string (rdOf ByteArray.empty x3_1 x26_2)] rfl (by (try simp only [List.map_toArray,List.map_cons,List.map_nil]);first|done|rfl|(simp only [List.length_drop,List.length_take];rfl)) ?_;(with_reducible refine (slices_Contains_string_string.calls k2 _ _ x6_2 (rdOf ByteArray.empty x3_1 x26_2) true _ ?side1 ?side2 A22.out).mono ?_);(case side1=>repeat (first|exact (Kd.R_reads' HO_6.out).2.2|(with_reducible refine Kd.C_alloc ?_ _)|(with_reducible refine Kd.C_drewN ?_ _)|(with_reducible refine Kd.C_drew ?_)));(case side2=>exact (Kd.R_reads' HO_6.out).2.1);rintro e w' ⟨rfl,⟨nd,rfl⟩⟩;refine ⟨_,rfl,?_⟩))
                    go_roundg k2
                    case measure=>have:=HK1.out;have:=HK2.out;omega
                    case rel=>exact ⟨(x6_2),(wrap64 (x26_2+1)),(by first|rfl|(simp;done)|(simp [*];done)),H',⟨by have:=HK1.out;have:=HK2.out;omega⟩,⟨by (with_reducible repeat (first|apply Kd.R_alloc|apply Kd.R_drewN|apply Kd.R_drew));exact HO_6.out⟩,⟨by (with_reducible repeat (first|apply Kd.R_alloc|apply Kd.R_drewN|apply Kd.R_drew));exact HO_24.out⟩,⟨by (with_reducible repeat (first|refine blk_drewN ?_ _|refine blk_drew ?_|refine blk_alloc ?_ _));exact BK171.out⟩,⟨by repeat (first|(with_reducible first|exact HB.out|apply below_alloc|apply pw_below_drewN|apply below_drew1|refine below_set ?_ GE171.out)|exact HB.out)⟩⟩
                  · replace c23 := Bool.eq_false_iff.mpr c23
                    subst c23
                    have H1:(if x6_2.length<8796093022208 then (syntax_Rule_Vars.l1 k2 (x6_2++[rdOf ByteArray.empty x3_1 x26_2]) x3_1 (x3_1.length:Int) (wrap64 (x26_2+1))) else (none))=some r:=by rw [if_neg (show ¬(false=true) by decide)] at H;exact H
                    clear H
                    have H:=H1
                    clear H1
                    by_cases c25:x6_2.length<8796093022208
                    · rw [if_pos c25] at H
                      have LMc25:=Aside0.mk c25
                      clear c25
                      obtain ⟨y185,hy185⟩:∃y_:List ByteArray,y_=(x6_2++[rdOf ByteArray.empty x3_1 x26_2]):=⟨_,rfl⟩
                      replace H:(syntax_Rule_Vars.l1 k2 y185 x3_1 (x3_1.length:Int) (wrap64 (x26_2+1)))=some r:=by first|(rw [hy185];with_reducible exact H)|(have H2_:=(Option.bind_some _ _).symm.trans H;rw [hy185];with_reducible exact H2_)|(have H2_:=(Option.bind_some _ _).symm.trans H;with_reducible exact H2_)|with_reducible exact H|(rw [hy185];exact H)|exact H
                      have Ny185:=Aside0.mk hy185
                      clear hy185
                      have H':=Aside0.mk H
                      clear H
                      have p183:0≤(x26_2:Int):=of_decide_eq_true (by first|(with_reducible assumption)|assumption)
                      have q183:x26_2<(x3_1.length:Int):=of_decide_eq_true (by first|(with_reducible assumption)|assumption)
                      obtain ⟨ad183,e183,hx183_0⟩:=Kd.at_string (Kd.R_reads' HO_24.out).2.2 x26_2 p183 q183
                      cases e183
                      replace p183:=eq_true p183
                      replace q183:=eq_true q183
                      obtain ⟨Ao26,co26,eo26⟩:=Kd.R_slice HO_6.out
                      subst eo26
                      go_wp2_with (first|((with_reducible refine gate_callee (f:=35) rfl ?_);refine goesL_ (some 32) rfl rfl Tryd.func35 (by kernel_rfl) rfl #[.slice Ao26 x6_2.length co26,.string (rdOf ByteArray.empty x3_1 x26_2)] rfl (by (try simp only [List.map_toArray,List.map_cons,List.map_nil]);first|done|rfl|(simp only [List.length_drop,List.length_take];rfl)) ?_;(with_reducible refine (slices_Contains_string_string.calls k2 _ _ x6_2 (rdOf ByteArray.empty x3_1 x26_2) false _ ?side1 ?side2 A22.out).mono ?_);(case side1=>repeat (first|exact (Kd.R_reads' HO_6.out).2.2|(with_reducible refine Kd.C_alloc ?_ _)|(with_reducible refine Kd.C_drewN ?_ _)|(with_reducible refine Kd.C_drew ?_)));(case side2=>exact (Kd.R_reads' HO_6.out).2.1);rintro e w' ⟨rfl,⟨nd,rfl⟩⟩;refine ⟨_,rfl,?_⟩)|((with_reducible refine gate_builtin (b:= .append) (xs:= #[.tmp 34,.tmp 36]) rfl ?_);at_builtin;refine Kd.R_append Kd.string (w0:=w) w.heap.size rfl (.tmp 34) (.tmp 36) 45 9 (.string ⟨#[]⟩) 16 rfl Tryd.underlying45 info9 rfl (by decide) (by omega) (.slice Ao26 x6_2.length co26) x6_2 (rdOf ByteArray.empty x3_1 x26_2) [.string (rdOf ByteArray.empty x3_1 x26_2)] (fun k_=>some k_≠(.slice (some ad183) x3_1.length co18:Value).ownBlock) (fun _=>False) rfl rfl ?aP (fun _ hk=>hk.elim) ?aF ?aO ?aB ?aS ?aL ?_;(case aP=>exact rfl);(case aB=>exact (by repeat (first|(with_reducible first|exact HB.out|apply below_alloc|apply pw_below_drewN|apply below_drew1|refine below_set ?_ GE171.out)|exact HB.out)));(case aF=>exact (fun k_ hk=>Kd.fresh' (Kd.R_lt (by (with_reducible repeat (first|apply Kd.R_alloc|apply Kd.R_drewN|apply Kd.R_drew));exact HO_24.out)) k_ hk));(case aO=>exact (by (with_reducible repeat (first|apply Kd.R_alloc|apply Kd.R_drewN|apply Kd.R_drew));exact HO_6.out));(case aS=>exact (below_size (by repeat (first|(with_reducible first|exact HB.out|apply below_alloc|apply pw_below_drewN|apply below_drew1|refine below_set ?_ GE171.out)|exact HB.out))));(case aL=>have:=LMc25.out;omega);intro v186 w27 ho hb hg hat;rw [←Ny185.out] at ho;have n0_:=Aside0.mk (Kd.R_after (ok:=(fun _=>True)) (by (with_reducible repeat (first|apply Kd.R_alloc|apply Kd.R_drewN|apply Kd.R_drew));exact Kd.R_mono HO_24.out (fun _ hk=>⟨trivial,hk⟩)) hg hat);have n1_:=Aside0.mk (blk_grown (g:=gb171) (o:= .cells #[.string a0_0,.slice A0_1 l0_1.length c0_1,.int .i64 a0_2,.slice A0_3 l0_3.length c0_3,.int .i64 a0_4] 43 (0,0)) (by (with_reducible repeat (first|refine blk_drewN ?_ _|refine blk_drew ?_|refine blk_alloc ?_ _));exact BK171.out) hg (Kd.R_ne HO_6.out BK171.out (by decide)));have n2_:=Aside0.mk (hb);have n3_:=Aside0.mk (ho);clear HO_24;clear BK171;clear HB;clear HO_6;have HO_24:=n0_;have BK171:=n1_;have HB:=n2_;have HO187:=n3_;clear n0_ n1_ n2_ n3_;clear ho hb hg hat))
                      go_roundg k2
                      case measure=>have:=HK1.out;have:=HK2.out;omega
                      case rel=>exact ⟨(y185),(wrap64 (x26_2+1)),(by first|rfl|(simp;done)|(simp [*];done)),H',⟨by have:=HK1.out;have:=HK2.out;omega⟩,⟨by (with_reducible repeat (first|apply Kd.R_alloc|apply Kd.R_drewN|apply Kd.R_drew));exact HO187.out⟩,⟨by (with_reducible repeat (first|apply Kd.R_alloc|apply Kd.R_drewN|apply Kd.R_drew));exact Kd.R_mono HO_24.out (fun _ hk=>hk.2)⟩,⟨by (with_reducible repeat (first|refine blk_drewN ?_ _|refine blk_drew ?_|refine blk_alloc ?_ _));exact BK171.out⟩,⟨by repeat (first|(with_reducible first|exact HB.out|apply below_alloc|apply pw_below_drewN|apply below_drew1|refine below_set ?_ GE171.out)|exact HB.out)⟩⟩
                    · rw [if_neg c25] at H
                      exact absurd H (by simp)
                · rw [if_neg c21] at H
                  exact absurd H (by simp)
              · rw [if_neg c20] at H
                exact absurd H (by simp)
            · rw [if_neg c19] at H
              have c19b0:decide (x26_2<(x3_1.length:Int))=false:=decide_eq_false c19
              clear c19
              obtain rfl:=Option.some.inj H
              go_wp2
              go_ret
              exact ⟨_,by first|rfl|(simp [errW_none,errW_some] <;>rfl)|(simp [*,errW_none,errW_some] <;>rfl),by (with_reducible repeat (first|apply Kd.R_alloc|apply Kd.R_drewN|apply Kd.R_drew));exact Kd.R_mono HO_6.out (fun _ hk=>trivial),by repeat (first|(with_reducible first|exact HB.out|apply below_alloc|apply pw_below_drewN|apply below_drew1|refine below_set ?_ GE171.out)|exact HB.out)⟩
end Go.Proofs.YtjlnpdpkobpkiaaDoorPSP
