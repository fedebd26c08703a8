import Derived.Test.YtjlnpdpkobpkiaaGreatDoorZ2PSPx2
namespace Go.Proofs.YtjlnpdpkobpkiaaGreatDoorPSP
open Go.RowKit Go.Proofs.YtjlnpdpkobpkiaaGreatDoorW.PrintWords Go.Proofs.YtjlnpdpkobpkiaaGreatDoorW.PrintLast Go.Proofs.YtjlnpdpkobpkiaaGreatDoorW.PrintMore
attribute [local go_sem] max2_int min2_int max_two min_two max_three min_three max_four min_four   -- for this text's walks alone
set_option linter.unusedVariables false
set_option linter.unusedSimpArgs false
def syntax_Expr_Vars.f:Nat→Int→ByteArray→Int→Int→List (S104)→Option (List ByteArray)
  |0,_,_,_,_,_=>none
  |k+1,a0_0,a0_1,a0_2,a0_3,l0_4=>if (l0_4.length:Int)=2 then (if 0<(l0_4.length:Int) then ((syntax_Expr_Vars.f k ((rd_T104 l0_4 0).f0.f0) ((rd_T104 l0_4 0).f0.f1) ((rd_T104 l0_4 0).f0.f2) ((rd_T104 l0_4 0).f1) ((rd_T104 l0_4 0).f2)).bind fun t131=>(if 1<(l0_4.length:Int) then ((syntax_Expr_Vars.f k ((rd_T104 l0_4 1).f0.f0) ((rd_T104 l0_4 1).f0.f1) ((rd_T104 l0_4 1).f0.f2) ((rd_T104 l0_4 1).f1) ((rd_T104 l0_4 1).f2)).bind fun t135=>((slices_Concat_string_string.f (([t131,t135]:List (List ByteArray)))).bind fun t141=>(some t141))) else (none))) else (none)) else ((syntax_vars.f k (([(⟨a0_0,a0_1,a0_2⟩:S98)]:List (S98)))).bind fun t147=>(some t147))
def syntax_Expr_Vars.T3:Bool×List (List Nat×List Nat):=(true,[([],[]),([0],[0]),([1],[1]),([2],[2]),([3],[3]),([],[]),([5],[5]),([6],[6]),([7],[7]),([8,4],[8]),([4,9],[4,9]),([10,9],[10]),([11,11,0,1,2,3,4,5,6,7,8,9,10,11],[11])])
def syntax_Expr_Vars.B3:List Nat:=[0,1,3,7,15,0,32,96,224,511,1023,2047,4095]
theorem syntax_Expr_Vars.tab3:rtab .any (opsOf Tryz.f66 3)=syntax_Expr_Vars.T3:=by kernel_rfl
theorem syntax_Expr_Vars.bits3:waitsOk syntax_Expr_Vars.T3.2 syntax_Expr_Vars.B3=true:=by kernel_rfl
set_option maxHeartbeats 8000000 in
set_option maxRecDepth 100000 in
theorem syntax_Expr_Vars.calls (k:Nat):∀(a0_0:Int) (a0_1:ByteArray) (a0_2:Int) (a0_3:Int) (A0_4:Option Addr) (c0_4:Nat) (l0_4:List (S104)) (r:List ByteArray) (w:World) (hr0_4:Kd.C k104 w A0_4 l0_4.length l0_4) (hc0_4:l0_4.length≤c0_4) (h:syntax_Expr_Vars.f k a0_0 a0_1 a0_2 a0_3 l0_4=some r),
    Calls Tryz.prog 66 #[.agg #[.int .i64 a0_0,.string a0_1,.int .i64 a0_2,.int .i64 a0_3,.slice A0_4 l0_4.length c0_4]] w fun e w'=>∃v0_:Value,e= .returned (v0_)∧Kd.R Kd.string 9 w' w.heap.size (fun _=>True) v0_ r∧Below w.heap.size w w':=by
  induction k using Nat.strongRecOn with
  |_ k ih=>
  intro a0_0 a0_1 a0_2 a0_3 A0_4 c0_4 l0_4 r w hr0_4 hc0_4 h
  cases k with
  |zero=>exact absurd h (by simp [syntax_Expr_Vars.f])
  |succ k=>
  simp only [syntax_Expr_Vars.f] at h
  have hu104:=Tryz.underlying104
  have hu98:=Tryz.underlying98
  have HR0_4:=Aside0.mk hr0_4
  have HC0_4:=Aside0.mk hc0_4
  clear hr0_4 hc0_4
  have HB:=Aside0.mk (Below.refl w.heap.size w)
  have H:(if (l0_4.length:Int)=2 then (if 0<(l0_4.length:Int) then ((syntax_Expr_Vars.f k ((rd_T104 l0_4 0).f0.f0) ((rd_T104 l0_4 0).f0.f1) ((rd_T104 l0_4 0).f0.f2) ((rd_T104 l0_4 0).f1) ((rd_T104 l0_4 0).f2)).bind fun t131=>(if 1<(l0_4.length:Int) then ((syntax_Expr_Vars.f k ((rd_T104 l0_4 1).f0.f0) ((rd_T104 l0_4 1).f0.f1) ((rd_T104 l0_4 1).f0.f2) ((rd_T104 l0_4 1).f1) ((rd_T104 l0_4 1).f2)).bind fun t135=>((slices_Concat_string_string.f (([t131,t135]:List (List ByteArray)))).bind fun t141=>(some t141))) else (none))) else (none)) else ((syntax_vars.f k (([(⟨a0_0,a0_1,a0_2⟩:S98)]:List (S98)))).bind fun t147=>(some t147)))=some r:=h
  clear h
  by_cases c2:(l0_4.length:Int)=2
  · rw [if_pos c2] at H
    have c2b0:((l0_4.length:Int)==2)=true:=beq_iff_eq.mpr c2
    have c2b1:((l0_4.length:Int) !=2)=false:=bne_eq_false_iff_eq.mpr c2
    clear c2
    by_cases c3:0<(l0_4.length:Int)
    · rw [if_pos c3] at H
      have c3b0:decide (0<(l0_4.length:Int))=true:=decide_eq_true c3
      have c3b1:decide (0<l0_4.length)=true:=decide_eq_true (by omega)
      clear c3
      replace H:=Option.bind_eq_some_iff.mp H
      obtain ⟨t131,A40,H⟩:=H
      replace H:(if 1<(l0_4.length:Int) then ((syntax_Expr_Vars.f k ((rd_T104 l0_4 1).f0.f0) ((rd_T104 l0_4 1).f0.f1) ((rd_T104 l0_4 1).f0.f2) ((rd_T104 l0_4 1).f1) ((rd_T104 l0_4 1).f2)).bind fun t135=>((slices_Concat_string_string.f (([t131,t135]:List (List ByteArray)))).bind fun t141=>(some t141))) else (none))=some r:=H
      have A4:=Aside0.mk A40
      clear A40
      by_cases c5:1<(l0_4.length:Int)
      · rw [if_pos c5] at H
        have c5b0:decide (1<(l0_4.length:Int))=true:=decide_eq_true c5
        have c5b1:decide (1<l0_4.length)=true:=decide_eq_true (by omega)
        clear c5
        replace H:=Option.bind_eq_some_iff.mp H
        obtain ⟨t135,A60,H⟩:=H
        replace H:((slices_Concat_string_string.f (([t131,t135]:List (List ByteArray)))).bind fun t141=>(some t141))=some r:=H
        have A6:=Aside0.mk A60
        clear A60
        obtain ⟨y138,hy138⟩:∃y_:List (List ByteArray),y_=(([t131,t135]:List (List ByteArray))):=⟨_,rfl⟩
        replace H:((slices_Concat_string_string.f y138).bind fun t141=>(some t141))=some r:=by first|(rw [hy138];with_reducible exact H)|(have H2_:=(Option.bind_some _ _).symm.trans H;rw [hy138];with_reducible exact H2_)|(have H2_:=(Option.bind_some _ _).symm.trans H;with_reducible exact H2_)|with_reducible exact H|(rw [hy138];exact H)|exact H
        have Ny138:=Aside0.mk hy138
        clear hy138
        replace H:=Option.bind_eq_some_iff.mp H
        obtain ⟨t141,A70,H⟩:=H
        replace H:(some t141)=some r:=H
        have A7:=Aside0.mk A70
        clear A70
        obtain rfl:=Option.some.inj H
        go_enter Tryz.func66,Tryz.ntmps66
        try go_wp2_with (first|((with_reducible refine gate_dst (N:=1) rfl ?_);refine box_event ?hg (N:=1) ?hd (cs:= #[.int .i64 a0_0,.string a0_1,.int .i64 a0_2,.int .i64 a0_3,.slice A0_4 l0_4.length c0_4]) (t:=104) ?hr ?_;(case hd=>rfl);(case hg=>rfl);(case hr=>first|(go_simp;done)|(go_simp;rfl));intro gb129 hg w8 hbox hb;have n0_:=Aside0.mk (below_step (by repeat (first|(with_reducible first|exact HB.out|apply below_alloc|apply pw_below_drewN|apply below_drew1)|exact HB.out)) hb);have n1_:=Aside0.mk (hbox);have n2_:=Aside0.mk ((by rw [hg];exact (below_size (by repeat (first|(with_reducible first|exact HB.out|apply below_alloc|apply pw_below_drewN|apply below_drew1)|exact HB.out))):w.heap.size≤gb129));have n3_:=Aside0.mk ((by rw [hg];exact (below_size (by repeat (first|(with_reducible first|exact HB.out|apply below_alloc|apply pw_below_drewN|apply below_drew1)|exact HB.out))):w.heap.size≤gb129));clear HB;have HB:=n0_;have BK129:=n1_;have GW129:=n2_;have GE129:=n3_;clear n0_ n1_ n2_ n3_;clear hb hbox hg;have hcz9_0:w8.cell? ⟨gb129,0,none⟩=some (.int .i64 a0_0):=(blk_cell BK129.out 0).trans rfl;have hcz9_1:w8.cell? ⟨gb129,1,none⟩=some (.string a0_1):=(blk_cell BK129.out 1).trans rfl;have hcz9_2:w8.cell? ⟨gb129,2,none⟩=some (.int .i64 a0_2):=(blk_cell BK129.out 2).trans rfl;have hcz9_3:w8.cell? ⟨gb129,3,none⟩=some (.int .i64 a0_3):=(blk_cell BK129.out 3).trans rfl;have hcz9_4:w8.cell? ⟨gb129,4,none⟩=some (.slice A0_4 l0_4.length c0_4):=(blk_cell BK129.out 4).trans rfl;have hfz9_0:=blk_frozen BK129.out 0;have hfz9_1:=blk_frozen BK129.out 1;have hfz9_2:=blk_frozen BK129.out 2;have hfz9_3:=blk_frozen BK129.out 3;have hfz9_4:=blk_frozen BK129.out 4))
        have n0_:=Aside0.mk (blk_drew BK129.out)
        have n1_:=Aside0.mk (below_drew1 HB.out)
        clear BK129
        clear HB
        have BK129:=n0_
        have HB:=n1_
        clear n0_ n1_
        have p130:0≤(0:Int):=(by omega)
        have q130:0<(l0_4.length:Int):=of_decide_eq_true (by first|(with_reducible assumption)|assumption)
        obtain ⟨ad130,A130_4,c130_4,e130,hx130_0,hx130_1,hx130_2,hx130_3,hx130_4,hl130_4,hi130_4⟩:=at_T104 HR0_4.out 0 p130 q130
        have hw130_4:=hx130_4
        (try rw [show ((0:Int)).toNat=0 from rfl] at hw130_4)
        (try rw [show 0*5=0 from rfl] at hw130_4)
        (try rw [Addr.add_zero'] at hw130_4)
        have hw130_3:=hx130_3
        (try rw [show ((0:Int)).toNat=0 from rfl] at hw130_3)
        (try rw [show 0*5=0 from rfl] at hw130_3)
        (try rw [Addr.add_zero'] at hw130_3)
        have hw130_2:=hx130_2
        (try rw [show ((0:Int)).toNat=0 from rfl] at hw130_2)
        (try rw [show 0*5=0 from rfl] at hw130_2)
        (try rw [Addr.add_zero'] at hw130_2)
        have hw130_1:=hx130_1
        (try rw [show ((0:Int)).toNat=0 from rfl] at hw130_1)
        (try rw [show 0*5=0 from rfl] at hw130_1)
        (try rw [Addr.add_zero'] at hw130_1)
        have hw130_0:=hx130_0
        (try rw [show ((0:Int)).toNat=0 from rfl] at hw130_0)
        (try rw [show 0*5=0 from rfl] at hw130_0)
        (try rw [Addr.add_zero'] at hw130_0)
        cases e130
        have qi130:(0<l0_4.length)=True:=eq_true (by omega)
        (try rw [show ((0:Int)).toNat=0 from rfl] at hx130_0)
        (try rw [show 0*5=0 from rfl] at hx130_0)
        (try rw [Addr.add_zero'] at hx130_0)
        (try rw [show ((0:Int)).toNat=0 from rfl] at hx130_1)
        (try rw [show 0*5=0 from rfl] at hx130_1)
        (try rw [Addr.add_zero'] at hx130_1)
        (try rw [show ((0:Int)).toNat=0 from rfl] at hx130_2)
        (try rw [show 0*5=0 from rfl] at hx130_2)
        (try rw [Addr.add_zero'] at hx130_2)
        (try rw [show ((0:Int)).toNat=0 from rfl] at hx130_3)
        (try rw [show 0*5=0 from rfl] at hx130_3)
        (try rw [Addr.add_zero'] at hx130_3)
        (try rw [show ((0:Int)).toNat=0 from rfl] at hx130_4)
        (try rw [show 0*5=0 from rfl] at hx130_4)
        (try rw [Addr.add_zero'] at hx130_4)
        replace hx130_0:=(HB.out.cell (World.block_lt_of_cell? w _ hx130_0)).trans hx130_0
        replace hx130_1:=(HB.out.cell (World.block_lt_of_cell? w _ hx130_1)).trans hx130_1
        replace hx130_2:=(HB.out.cell (World.block_lt_of_cell? w _ hx130_2)).trans hx130_2
        replace hx130_3:=(HB.out.cell (World.block_lt_of_cell? w _ hx130_3)).trans hx130_3
        replace hx130_4:=(HB.out.cell (World.block_lt_of_cell? w _ hx130_4)).trans hx130_4
        have HR130_4:=Aside0.mk hi130_4
        have HC130_4:=Aside0.mk hl130_4
        clear hi130_4 hl130_4
        replace p130:=eq_true p130
        replace q130:=eq_true q130
        have p134:0≤(1:Int):=(by omega)
        have q134:1<(l0_4.length:Int):=of_decide_eq_true (by first|(with_reducible assumption)|assumption)
        obtain ⟨ad134,A134_4,c134_4,e134,hx134_0,hx134_1,hx134_2,hx134_3,hx134_4,hl134_4,hi134_4⟩:=at_T104 HR0_4.out 1 p134 q134
        have hw134_4:=hx134_4
        (try rw [show ((1:Int)).toNat=1 from rfl] at hw134_4)
        (try rw [show 1*5=5 from rfl] at hw134_4)
        (try simp only [Nat.reduceMul,Nat.reduceEqDiff,Go.Addr.add,↓reduceIte] at hw134_4)
        have hw134_3:=hx134_3
        (try rw [show ((1:Int)).toNat=1 from rfl] at hw134_3)
        (try rw [show 1*5=5 from rfl] at hw134_3)
        (try simp only [Nat.reduceMul,Nat.reduceEqDiff,Go.Addr.add,↓reduceIte] at hw134_3)
        have hw134_2:=hx134_2
        (try rw [show ((1:Int)).toNat=1 from rfl] at hw134_2)
        (try rw [show 1*5=5 from rfl] at hw134_2)
        (try simp only [Nat.reduceMul,Nat.reduceEqDiff,Go.Addr.add,↓reduceIte] at hw134_2)
        have hw134_1:=hx134_1
        (try rw [show ((1:Int)).toNat=1 from rfl] at hw134_1)
        (try rw [show 1*5=5 from rfl] at hw134_1)
        (try simp only [Nat.reduceMul,Nat.reduceEqDiff,Go.Addr.add,↓reduceIte] at hw134_1)
        have hw134_0:=hx134_0
        (try rw [show ((1:Int)).toNat=1 from rfl] at hw134_0)
        (try rw [show 1*5=5 from rfl] at hw134_0)
        (try simp only [Nat.reduceMul,Nat.reduceEqDiff,Go.Addr.add,↓reduceIte] at hw134_0)
        obtain rfl:ad130=ad134:=(by injection e134)
        (try simp only [show (1:Int).toNat=1 from rfl,Nat.reduceMul,Nat.reduceEqDiff,Go.Addr.add,↓reduceIte] at hx134_0)
        (try simp only [show (1:Int).toNat=1 from rfl,Nat.reduceMul,Nat.reduceEqDiff,Go.Addr.add,↓reduceIte] at hx134_1)
        (try simp only [show (1:Int).toNat=1 from rfl,Nat.reduceMul,Nat.reduceEqDiff,Go.Addr.add,↓reduceIte] at hx134_2)
        (try simp only [show (1:Int).toNat=1 from rfl,Nat.reduceMul,Nat.reduceEqDiff,Go.Addr.add,↓reduceIte] at hx134_3)
        (try simp only [show (1:Int).toNat=1 from rfl,Nat.reduceMul,Nat.reduceEqDiff,Go.Addr.add,↓reduceIte] at hx134_4)
        have qi134:(1<l0_4.length)=True:=eq_true (by omega)
        (try rw [show ((1:Int)).toNat=1 from rfl] at hx134_0)
        (try rw [show 1*5=5 from rfl] at hx134_0)
        (try rw [show ((1:Int)).toNat=1 from rfl] at hx134_1)
        (try rw [show 1*5=5 from rfl] at hx134_1)
        (try rw [show ((1:Int)).toNat=1 from rfl] at hx134_2)
        (try rw [show 1*5=5 from rfl] at hx134_2)
        (try rw [show ((1:Int)).toNat=1 from rfl] at hx134_3)
        (try rw [show 1*5=5 from rfl] at hx134_3)
        (try rw [show ((1:Int)).toNat=1 from rfl] at hx134_4)
        (try rw [show 1*5=5 from rfl] at hx134_4)
        replace hx134_0:=(HB.out.cell (World.block_lt_of_cell? w _ hx134_0)).trans hx134_0
        replace hx134_1:=(HB.out.cell (World.block_lt_of_cell? w _ hx134_1)).trans hx134_1
        replace hx134_2:=(HB.out.cell (World.block_lt_of_cell? w _ hx134_2)).trans hx134_2
        replace hx134_3:=(HB.out.cell (World.block_lt_of_cell? w _ hx134_3)).trans hx134_3
        replace hx134_4:=(HB.out.cell (World.block_lt_of_cell? w _ hx134_4)).trans hx134_4
        have HR134_4:=Aside0.mk hi134_4
        have HC134_4:=Aside0.mk hl134_4
        clear hi134_4 hl134_4
        replace p134:=eq_true p134
        replace q134:=eq_true q134
        refine start_ (n:=13) (S:=fun w'=>w'.cell? ⟨gb129,0,none⟩=some (.int .i64 a0_0)∧w'.cell? ⟨gb129,1,none⟩=some (.string a0_1)∧w'.cell? ⟨gb129,2,none⟩=some (.int .i64 a0_2)∧w'.cell? ⟨gb129,3,none⟩=some (.int .i64 a0_3)∧w'.cell? ⟨gb129,4,none⟩=some (.slice (some ad130) l0_4.length c0_4)∧w'.cell? ad130=some (.int .i64 ((rd_T104 l0_4 0).f0.f0))∧w'.cell? ⟨ad130.block,ad130.off+1,none⟩=some (.string ((rd_T104 l0_4 0).f0.f1))∧w'.cell? ⟨ad130.block,ad130.off+2,none⟩=some (.int .i64 ((rd_T104 l0_4 0).f0.f2))∧w'.cell? ⟨ad130.block,ad130.off+3,none⟩=some (.int .i64 ((rd_T104 l0_4 0).f1))∧w'.cell? ⟨ad130.block,ad130.off+4,none⟩=some (.slice A130_4 ((rd_T104 l0_4 0).f2).length c130_4)∧w'.cell? ⟨ad130.block,ad130.off+5,none⟩=some (.int .i64 ((rd_T104 l0_4 1).f0.f0))∧w'.cell? ⟨ad130.block,ad130.off+5+1,none⟩=some (.string ((rd_T104 l0_4 1).f0.f1))∧w'.cell? ⟨ad130.block,ad130.off+5+2,none⟩=some (.int .i64 ((rd_T104 l0_4 1).f0.f2))∧w'.cell? ⟨ad130.block,ad130.off+5+3,none⟩=some (.int .i64 ((rd_T104 l0_4 1).f1))∧w'.cell? ⟨ad130.block,ad130.off+5+4,none⟩=some (.slice A134_4 ((rd_T104 l0_4 1).f2).length c134_4)) (ds:=[]) #[false,false,false,false,false,false,false,false,false,false,false,false,false] (by kernel_rfl) rfl rfl ⟨(blk_cell BK129.out 0).trans rfl,(blk_cell BK129.out 1).trans rfl,(blk_cell BK129.out 2).trans rfl,(blk_cell BK129.out 3).trans rfl,(blk_cell BK129.out 4).trans rfl,((HB.out.cell (World.block_lt_of_cell? w _ hw130_0)).trans hw130_0),((HB.out.cell (World.block_lt_of_cell? w _ hw130_1)).trans hw130_1),((HB.out.cell (World.block_lt_of_cell? w _ hw130_2)).trans hw130_2),((HB.out.cell (World.block_lt_of_cell? w _ hw130_3)).trans hw130_3),((HB.out.cell (World.block_lt_of_cell? w _ hw130_4)).trans hw130_4),((HB.out.cell (World.block_lt_of_cell? w _ hw134_0)).trans hw134_0),((HB.out.cell (World.block_lt_of_cell? w _ hw134_1)).trans hw134_1),((HB.out.cell (World.block_lt_of_cell? w _ hw134_2)).trans hw134_2),((HB.out.cell (World.block_lt_of_cell? w _ hw134_3)).trans hw134_3),((HB.out.cell (World.block_lt_of_cell? w _ hw134_4)).trans hw134_4)⟩ (fun hHeld=> ?_);refine with_tabW syntax_Expr_Vars.tab3 syntax_Expr_Vars.bits3 (fun HT_ HW_=> ?_)
        generalize w8.drew=w10 at BK129 HB HR130_4 HR134_4 hx130_0 hx130_1 hx130_2 hx130_3 hx130_4 hx134_0 hx134_1 hx134_2 hx134_3 hx134_4 hHeld ⊢
        refine pure_ (i:=0) (N:=some 11) (v:= ?_) (a':= ?_) #[true,false,false,false,false,false,false,false,false,false,false,false,false] rfl rfl (any_of HT_.out (by kernel_rfl)) (fun _ _ _ h=>h) (Or.inl ⟨by rfl,?_⟩) ?_ ?_
        rotate_left
        · intro w'
          go_simp
          with_reducible rfl
        rotate_left
        · simp only [Act.put, List.setIfInBounds_toArray, List.set_cons_zero, List.set_cons_succ, i64_w, i32_w]
          rfl
        refine pure_ (i:=5) (N:=some 16) (v:= ?_) (a':= ?_) #[true,false,false,false,false,true,false,false,false,false,false,false,false] rfl rfl (any_of HT_.out (by kernel_rfl)) (fun _ _ _ h=>h) (Or.inl ⟨by rfl,?_⟩) ?_ ?_
        rotate_left
        · intro w'
          go_simp
          with_reducible rfl
        rotate_left
        · simp only [Act.put, List.setIfInBounds_toArray, List.set_cons_zero, List.set_cons_succ, i64_w, i32_w]
          rfl
        refine take_ (i:=1) (N:=some 12) (v:= ?_) (a':= ?_) #[true,true,false,false,false,true,false,false,false,false,false,false,false] rfl rfl (take_ofW HT_.out HW_.out (by kernel_rfl)) (fun _ _ _ h=>h) (Or.inl ⟨by rfl,?_⟩) hHeld ?_ ?_
        rotate_left
        · rintro w' ⟨s0, s1, s2, s3, s4, s5, s6, s7, s8, s9, s10, s11, s12, s13, s14⟩
          go_simp
          with_reducible rfl
        rotate_left
        · simp only [Act.put, List.setIfInBounds_toArray, List.set_cons_zero, List.set_cons_succ, i64_w, i32_w]
          rfl
        refine pure_ (i:=2) (N:=some 13) (v:= ?_) (a':= ?_) #[true,true,true,false,false,true,false,false,false,false,false,false,false] rfl rfl (any_of HT_.out (by kernel_rfl)) (fun _ _ _ h=>h) (Or.inl ⟨by rfl,?_⟩) ?_ ?_
        rotate_left
        · intro w'
          go_simp
          with_reducible rfl
        rotate_left
        · simp only [Act.put, List.setIfInBounds_toArray, List.set_cons_zero, List.set_cons_succ, i64_w, i32_w]
          rfl
        refine take_ (i:=3) (N:=some 14) (v:= ?_) (a':= ?_) #[true,true,true,true,false,true,false,false,false,false,false,false,false] rfl rfl (take_ofW HT_.out HW_.out (by kernel_rfl)) (fun _ _ _ h=>h) (Or.inl ⟨by rfl,?_⟩) hHeld ?_ ?_
        rotate_left
        · rintro w' ⟨s0, s1, s2, s3, s4, s5, s6, s7, s8, s9, s10, s11, s12, s13, s14⟩
          go_simp
          with_reducible rfl
        rotate_left
        · simp only [Act.put, List.setIfInBounds_toArray, List.set_cons_zero, List.set_cons_succ, i64_w, i32_w]
          rfl
        refine take_ (i:=6) (N:=some 17) (v:= ?_) (a':= ?_) #[true,true,true,true,false,true,true,false,false,false,false,false,false] rfl rfl (take_ofW HT_.out HW_.out (by kernel_rfl)) (fun _ _ _ h=>h) (Or.inl ⟨by rfl,?_⟩) hHeld ?_ ?_
        rotate_left
        · rintro w' ⟨s0, s1, s2, s3, s4, s5, s6, s7, s8, s9, s10, s11, s12, s13, s14⟩
          go_simp
          with_reducible rfl
        rotate_left
        · simp only [Act.put, List.setIfInBounds_toArray, List.set_cons_zero, List.set_cons_succ, i64_w, i32_w]
          rfl
        refine pure_ (i:=7) (N:=some 18) (v:= ?_) (a':= ?_) #[true,true,true,true,false,true,true,true,false,false,false,false,false] rfl rfl (any_of HT_.out (by kernel_rfl)) (fun _ _ _ h=>h) (Or.inl ⟨by rfl,?_⟩) ?_ ?_
        rotate_left
        · intro w'
          go_simp
          with_reducible rfl
        rotate_left
        · simp only [Act.put, List.setIfInBounds_toArray, List.set_cons_zero, List.set_cons_succ, i64_w, i32_w]
          rfl
        refine take_ (i:=8) (N:=some 19) (v:= ?_) (a':= ?_) #[true,true,true,true,false,true,true,true,true,false,false,false,false] rfl rfl (take_ofW HT_.out HW_.out (by kernel_rfl)) (fun _ _ _ h=>h) (Or.inl ⟨by rfl,?_⟩) hHeld ?_ ?_
        rotate_left
        · rintro w' ⟨s0, s1, s2, s3, s4, s5, s6, s7, s8, s9, s10, s11, s12, s13, s14⟩
          go_simp
          with_reducible rfl
        rotate_left
        · simp only [Act.put, List.setIfInBounds_toArray, List.set_cons_zero, List.set_cons_succ, i64_w, i32_w]
          rfl
        refine one_ (i:=4) (N:=some 15) #[true,true,true,true,true,true,true,true,true,false,false,false,false] rfl rfl (one_of HT_.out (by kernel_rfl)) (by decide) (fun K hK=> ?_)
        refine goes_ Tryz.func66 (by kernel_rfl) rfl #[.agg #[.int .i64 ((rd_T104 l0_4 0).f0.f0),.string ((rd_T104 l0_4 0).f0.f1),.int .i64 ((rd_T104 l0_4 0).f0.f2),.int .i64 ((rd_T104 l0_4 0).f1),.slice A130_4 ((rd_T104 l0_4 0).f2).length c130_4]] (by rfl) rfl rfl (by (try simp only [List.map_toArray,List.map_cons,List.map_nil]);first|done|rfl|(simp only [List.length_drop,List.length_take];rfl)) ?_
        with_reducible refine (ih k (by omega) ((rd_T104 l0_4 0).f0.f0) ((rd_T104 l0_4 0).f0.f1) ((rd_T104 l0_4 0).f0.f2) ((rd_T104 l0_4 0).f1) _ _ ((rd_T104 l0_4 0).f2) t131 _ ?side1 ?side2 A4.out).mono ?_
        (case side1=>repeat (first|exact (Kd.C_below HR130_4.out HB.out)|(with_reducible refine Kd.C_alloc ?_ _)|(with_reducible refine Kd.C_drewN ?_ _)|(with_reducible refine Kd.C_drew ?_)))
        (case side2=>exact HC130_4.out)
        rintro e w11 ⟨v132,rfl,ho0,hb⟩
        refine ⟨_,rfl,?_⟩
        have n0_:=Aside0.mk (Kd.R_lower ho0 (below_size (by repeat (first|(with_reducible first|exact HB.out|apply below_alloc|apply pw_below_drewN|apply below_drew1|refine below_set ?_ GE129.out)|exact HB.out))))
        have n1_:=Aside0.mk (blk_below (g:=gb129) (o:= .cells #[.int .i64 a0_0,.string a0_1,.int .i64 a0_2,.int .i64 a0_3,.slice (some ad130) l0_4.length c0_4] 104 (0,0)) (by (with_reducible repeat (first|refine blk_drewN ?_ _|refine blk_drew ?_|refine blk_alloc ?_ _));exact BK129.out) hb)
        have n2_:=Aside0.mk (below_step (by repeat (first|(with_reducible first|exact HB.out|apply below_alloc|apply pw_below_drewN|apply below_drew1|refine below_set ?_ GE129.out)|exact HB.out)) hb)
        clear BK129
        clear HB
        have HO133:=n0_
        have BK129:=n1_
        have HB:=n2_
        clear n0_ n1_ n2_
        (try clear hb)
        (try clear hb2)
        (try clear hk)
        (try clear hi)
        (try clear ho0)
        refine hK.out _ _ ⟨(blk_cell BK129.out 0).trans rfl,(blk_cell BK129.out 1).trans rfl,(blk_cell BK129.out 2).trans rfl,(blk_cell BK129.out 3).trans rfl,(blk_cell BK129.out 4).trans rfl,((HB.out.cell (World.block_lt_of_cell? w _ hw130_0)).trans hw130_0),((HB.out.cell (World.block_lt_of_cell? w _ hw130_1)).trans hw130_1),((HB.out.cell (World.block_lt_of_cell? w _ hw130_2)).trans hw130_2),((HB.out.cell (World.block_lt_of_cell? w _ hw130_3)).trans hw130_3),((HB.out.cell (World.block_lt_of_cell? w _ hw130_4)).trans hw130_4),((HB.out.cell (World.block_lt_of_cell? w _ hw134_0)).trans hw134_0),((HB.out.cell (World.block_lt_of_cell? w _ hw134_1)).trans hw134_1),((HB.out.cell (World.block_lt_of_cell? w _ hw134_2)).trans hw134_2),((HB.out.cell (World.block_lt_of_cell? w _ hw134_3)).trans hw134_3),((HB.out.cell (World.block_lt_of_cell? w _ hw134_4)).trans hw134_4)⟩ (fun hHeld=> ?_)
        clear hK K
        refine norm_ (a':= ?_) ?_ ?_
        rotate_left
        · show Act.put _ (some 15) _ = _
          simp only [Act.put,List.setIfInBounds_toArray,List.set_cons_zero,List.set_cons_succ,i64_w,i32_w]
          rfl
        refine one_ (i:=9) (N:=some 20) #[true,true,true,true,true,true,true,true,true,true,false,false,false] rfl rfl (one_of HT_.out (by kernel_rfl)) (by decide) (fun K hK=> ?_)
        refine goes_ Tryz.func66 (by kernel_rfl) rfl #[.agg #[.int .i64 ((rd_T104 l0_4 1).f0.f0),.string ((rd_T104 l0_4 1).f0.f1),.int .i64 ((rd_T104 l0_4 1).f0.f2),.int .i64 ((rd_T104 l0_4 1).f1),.slice A134_4 ((rd_T104 l0_4 1).f2).length c134_4]] (by rfl) rfl rfl (by (try simp only [List.map_toArray,List.map_cons,List.map_nil]);first|done|rfl|(simp only [List.length_drop,List.length_take];rfl)) ?_
        with_reducible refine (ih k (by omega) ((rd_T104 l0_4 1).f0.f0) ((rd_T104 l0_4 1).f0.f1) ((rd_T104 l0_4 1).f0.f2) ((rd_T104 l0_4 1).f1) _ _ ((rd_T104 l0_4 1).f2) t135 _ ?side1 ?side2 A6.out).mono ?_
        (case side1=>repeat (first|exact (Kd.C_below HR134_4.out HB.out)|(with_reducible refine Kd.C_alloc ?_ _)|(with_reducible refine Kd.C_drewN ?_ _)|(with_reducible refine Kd.C_drew ?_)))
        (case side2=>exact HC134_4.out)
        rintro e w12 ⟨v136,rfl,ho0,hb⟩
        refine ⟨_,rfl,?_⟩
        have n0_:=Aside0.mk (Kd.R_elder' (by (with_reducible repeat (first|apply Kd.R_alloc|apply Kd.R_drewN|apply Kd.R_drew));exact HO133.out) (Kd.R_base ho0) hb)
        have n1_:=Aside0.mk (Kd.R_lower (Kd.R_new' ho0 (Kd.R_lt (by (with_reducible repeat (first|apply Kd.R_alloc|apply Kd.R_drewN|apply Kd.R_drew));exact HO133.out))) (below_size (by repeat (first|(with_reducible first|exact HB.out|apply below_alloc|apply pw_below_drewN|apply below_drew1|refine below_set ?_ GE129.out)|exact HB.out))))
        have n2_:=Aside0.mk (blk_below (g:=gb129) (o:= .cells #[.int .i64 a0_0,.string a0_1,.int .i64 a0_2,.int .i64 a0_3,.slice (some ad130) l0_4.length c0_4] 104 (0,0)) (by (with_reducible repeat (first|refine blk_drewN ?_ _|refine blk_drew ?_|refine blk_alloc ?_ _));exact BK129.out) hb)
        have n3_:=Aside0.mk (below_step (by repeat (first|(with_reducible first|exact HB.out|apply below_alloc|apply pw_below_drewN|apply below_drew1|refine below_set ?_ GE129.out)|exact HB.out)) hb)
        clear HO133
        clear BK129
        clear HB
        have HO133:=n0_
        have HO137:=n1_
        have BK129:=n2_
        have HB:=n3_
        clear n0_ n1_ n2_ n3_
        (try clear hb)
        (try clear hb2)
        (try clear hk)
        (try clear hi)
        (try clear ho0)
        obtain ⟨Ao13,co13,eo13⟩:=Kd.R_slice HO133.out
        (first|subst eo13|(injection eo13 with f1_ f2_ f3_;have f4_:=f1_.symm;have f5_:=f3_.symm;clear f1_ f2_ f3_;subst f4_;subst f5_))
        obtain ⟨Ao14,co14,eo14⟩:=Kd.R_slice HO137.out
        (first|subst eo14|(injection eo14 with f1_ f2_ f3_;have f4_:=f1_.symm;have f5_:=f3_.symm;clear f1_ f2_ f3_;subst f4_;subst f5_))
        refine hK.out _ _ ⟨(blk_cell BK129.out 0).trans rfl,(blk_cell BK129.out 1).trans rfl,(blk_cell BK129.out 2).trans rfl,(blk_cell BK129.out 3).trans rfl,(blk_cell BK129.out 4).trans rfl,((HB.out.cell (World.block_lt_of_cell? w _ hw130_0)).trans hw130_0),((HB.out.cell (World.block_lt_of_cell? w _ hw130_1)).trans hw130_1),((HB.out.cell (World.block_lt_of_cell? w _ hw130_2)).trans hw130_2),((HB.out.cell (World.block_lt_of_cell? w _ hw130_3)).trans hw130_3),((HB.out.cell (World.block_lt_of_cell? w _ hw130_4)).trans hw130_4),((HB.out.cell (World.block_lt_of_cell? w _ hw134_0)).trans hw134_0),((HB.out.cell (World.block_lt_of_cell? w _ hw134_1)).trans hw134_1),((HB.out.cell (World.block_lt_of_cell? w _ hw134_2)).trans hw134_2),((HB.out.cell (World.block_lt_of_cell? w _ hw134_3)).trans hw134_3),((HB.out.cell (World.block_lt_of_cell? w _ hw134_4)).trans hw134_4)⟩ (fun hHeld=> ?_)
        clear hK K
        refine norm_ (a':= ?_) ?_ ?_
        rotate_left
        · show Act.put _ (some 20) _ = _
          simp only [Act.put,List.setIfInBounds_toArray,List.set_cons_zero,List.set_cons_succ,i64_w,i32_w]
          rfl
        refine one_ (i:=10) (N:=some 21) #[true,true,true,true,true,true,true,true,true,true,true,false,false] rfl rfl (one_of HT_.out (by kernel_rfl)) (by decide) (fun K hK=> ?_)
        refine Kd.N_lit_step (Kd.slice 9 Kd.string) _ 74 ?hg (N':=21) ?hd (xs:=([t131,t135]:List (List ByteArray))) (inner:=[.slice Ao13 t131.length co13,.slice Ao14 t135.length co14]) (ok:=(fun k_=>k_≠gb129)) (okp:=(fun k_=>k_≠gb129)) ?hr ?hp (fun _ hk=>hk) ((show ∀k_,w12.heap.size≤k_→(fun k_=>k_≠gb129) k_ from fun k_ hk=>Kd.freshB (g:=gb129) (o:= .cells #[.int .i64 a0_0,.string a0_1,.int .i64 a0_2,.int .i64 a0_3,.slice (some ad130) l0_4.length c0_4] 104 (0,0)) (by (with_reducible repeat (first|refine blk_drewN ?_ _|refine blk_drew ?_|refine blk_alloc ?_ _));exact BK129.out) k_ hk) _ (Nat.le_refl _)) (Below.refl _ _) (Nat.le_refl _) (by simp) ?_;(case hd=>rfl);(case hg=>rfl);(case hr=>first|(go_simp;done)|(go_simp;rfl));(case hp=>exact (Reps.one (show Kd.FK (Kd.slice 9 Kd.string) _ _ t131 [.slice Ao13 t131.length co13] from (Kd.FK_slice_mk (Kd.R_reads' (Kd.R_mono (ok':=(fun k_=>k_≠gb129)) (Kd.R_types (HO133.out) BK129.out (by decide)) (fun k_ hk=>hk.2))).2.1 (Kd.R_F (Kd.R_mono (ok':=(fun k_=>k_≠gb129)) (Kd.R_types (HO133.out) BK129.out (by decide)) (fun k_ hk=>hk.2))))) (Reps.one (show Kd.FK (Kd.slice 9 Kd.string) _ _ t135 [.slice Ao14 t135.length co14] from (Kd.FK_slice_mk (Kd.R_reads' (Kd.R_mono (ok':=(fun k_=>k_≠gb129)) (Kd.R_types (HO137.out) BK129.out (by decide)) (fun k_ hk=>hk.2))).2.1 (Kd.R_F (Kd.R_mono (ok':=(fun k_=>k_≠gb129)) (Kd.R_types (HO137.out) BK129.out (by decide)) (fun k_ hk=>hk.2))))) (Reps.none _ _))))
        intro v139 w15 ho16 hb hg_ hnew_
        clear hg_ hnew_
        (first|rw [←Ny138.out] at ho16|(simp only [Int.reduceToNat] at ho16;rw [←Ny138.out] at ho16))
        have n0_:=Aside0.mk (Kd.N_lower ho16 (below_size (by repeat (first|(with_reducible first|exact HB.out|apply below_alloc|apply pw_below_drewN|apply below_drew1|refine below_set ?_ GE129.out)|exact HB.out))))
        have n1_:=Aside0.mk (blk_below (g:=gb129) (o:= .cells #[.int .i64 a0_0,.string a0_1,.int .i64 a0_2,.int .i64 a0_3,.slice (some ad130) l0_4.length c0_4] 104 (0,0)) (by (with_reducible repeat (first|refine blk_drewN ?_ _|refine blk_drew ?_|refine blk_alloc ?_ _));exact BK129.out) hb)
        have n2_:=Aside0.mk (below_step (by repeat (first|(with_reducible first|exact HB.out|apply below_alloc|apply pw_below_drewN|apply below_drew1|refine below_set ?_ GE129.out)|exact HB.out)) hb)
        clear BK129
        clear HB
        clear HO133
        clear HO137
        have HO140:=n0_
        have BK129:=n1_
        have HB:=n2_
        clear n0_ n1_ n2_
        clear hb ho16
        obtain ⟨Ao17,co17,eo17⟩:=Kd.N_slice HO140.out
        (first|subst eo17|(injection eo17 with f1_ f2_ f3_;have f4_:=f1_.symm;have f5_:=f3_.symm;clear f1_ f2_ f3_;subst f4_;subst f5_))
        refine hK.out _ _ ⟨(blk_cell BK129.out 0).trans rfl,(blk_cell BK129.out 1).trans rfl,(blk_cell BK129.out 2).trans rfl,(blk_cell BK129.out 3).trans rfl,(blk_cell BK129.out 4).trans rfl,((HB.out.cell (World.block_lt_of_cell? w _ hw130_0)).trans hw130_0),((HB.out.cell (World.block_lt_of_cell? w _ hw130_1)).trans hw130_1),((HB.out.cell (World.block_lt_of_cell? w _ hw130_2)).trans hw130_2),((HB.out.cell (World.block_lt_of_cell? w _ hw130_3)).trans hw130_3),((HB.out.cell (World.block_lt_of_cell? w _ hw130_4)).trans hw130_4),((HB.out.cell (World.block_lt_of_cell? w _ hw134_0)).trans hw134_0),((HB.out.cell (World.block_lt_of_cell? w _ hw134_1)).trans hw134_1),((HB.out.cell (World.block_lt_of_cell? w _ hw134_2)).trans hw134_2),((HB.out.cell (World.block_lt_of_cell? w _ hw134_3)).trans hw134_3),((HB.out.cell (World.block_lt_of_cell? w _ hw134_4)).trans hw134_4)⟩ (fun hHeld=> ?_)
        clear hK K
        refine norm_ (a':= ?_) ?_ ?_
        rotate_left
        · show Act.put _ (some 21) _ = _
          simp only [Act.put,List.setIfInBounds_toArray,List.set_cons_zero,List.set_cons_succ,i64_w,i32_w]
          rfl
        refine one_ (i:=11) (N:=some 22) #[true,true,true,true,true,true,true,true,true,true,true,true,false] rfl rfl (one_of HT_.out (by kernel_rfl)) (by decide) (fun K hK=> ?_)
        refine goes_ Tryz.func99 (by kernel_rfl) rfl #[.slice Ao17 y138.length co17] (by rfl) rfl rfl (by (try simp only [List.map_toArray,List.map_cons,List.map_nil]);first|done|rfl|(simp only [List.length_drop,List.length_take];rfl)) ?_
        with_reducible refine (slices_Concat_string_string.calls _ _ y138 t141 _ ?side1 ?side2 A7.out).mono ?_
        (case side1=>repeat (first|exact (Kd.N_reads' HO140.out).2.2|(with_reducible refine Kd.C_alloc ?_ _)|(with_reducible refine Kd.C_drewN ?_ _)|(with_reducible refine Kd.C_drew ?_)))
        (case side2=>exact (Kd.N_reads' HO140.out).2.1)
        rintro e w18 ⟨v142,rfl,ho0,hb⟩
        refine ⟨_,rfl,?_⟩
        have n0_:=Aside0.mk (Kd.N_elder' (by (with_reducible repeat (first|apply Kd.N_alloc|apply Kd.N_drewN|apply Kd.N_drew));exact HO140.out) (Kd.R_base ho0) hb)
        have n1_:=Aside0.mk (Kd.R_lower ho0 (below_size (by repeat (first|(with_reducible first|exact HB.out|apply below_alloc|apply pw_below_drewN|apply below_drew1|refine below_set ?_ GE129.out)|exact HB.out))))
        have n2_:=Aside0.mk (blk_below (g:=gb129) (o:= .cells #[.int .i64 a0_0,.string a0_1,.int .i64 a0_2,.int .i64 a0_3,.slice (some ad130) l0_4.length c0_4] 104 (0,0)) (by (with_reducible repeat (first|refine blk_drewN ?_ _|refine blk_drew ?_|refine blk_alloc ?_ _));exact BK129.out) hb)
        have n3_:=Aside0.mk (below_step (by repeat (first|(with_reducible first|exact HB.out|apply below_alloc|apply pw_below_drewN|apply below_drew1|refine below_set ?_ GE129.out)|exact HB.out)) hb)
        clear HO140
        clear BK129
        clear HB
        have HO140:=n0_
        have HO143:=n1_
        have BK129:=n2_
        have HB:=n3_
        clear n0_ n1_ n2_ n3_
        (try clear hb)
        (try clear hb2)
        (try clear hk)
        (try clear hi)
        (try clear ho0)
        refine hK.out _ _ ⟨(blk_cell BK129.out 0).trans rfl,(blk_cell BK129.out 1).trans rfl,(blk_cell BK129.out 2).trans rfl,(blk_cell BK129.out 3).trans rfl,(blk_cell BK129.out 4).trans rfl,((HB.out.cell (World.block_lt_of_cell? w _ hw130_0)).trans hw130_0),((HB.out.cell (World.block_lt_of_cell? w _ hw130_1)).trans hw130_1),((HB.out.cell (World.block_lt_of_cell? w _ hw130_2)).trans hw130_2),((HB.out.cell (World.block_lt_of_cell? w _ hw130_3)).trans hw130_3),((HB.out.cell (World.block_lt_of_cell? w _ hw130_4)).trans hw130_4),((HB.out.cell (World.block_lt_of_cell? w _ hw134_0)).trans hw134_0),((HB.out.cell (World.block_lt_of_cell? w _ hw134_1)).trans hw134_1),((HB.out.cell (World.block_lt_of_cell? w _ hw134_2)).trans hw134_2),((HB.out.cell (World.block_lt_of_cell? w _ hw134_3)).trans hw134_3),((HB.out.cell (World.block_lt_of_cell? w _ hw134_4)).trans hw134_4)⟩ (fun hHeld=> ?_)
        clear hK K
        refine norm_ (a':= ?_) ?_ ?_
        rotate_left
        · show Act.put _ (some 22) _ = _
          simp only [Act.put,List.setIfInBounds_toArray,List.set_cons_zero,List.set_cons_succ,i64_w,i32_w]
          rfl
        refine pure_ (i:=12) (N:=some 2) (v:= ?_) (a':= ?_) #[true,true,true,true,true,true,true,true,true,true,true,true,true] rfl rfl (any_of HT_.out (by kernel_rfl)) (fun _ _ _ h=>h) (Or.inl ⟨by rfl,?_⟩) ?_ ?_
        rotate_left
        · intro w'
          go_simp
          with_reducible rfl
        rotate_left
        · simp only [Act.put, List.setIfInBounds_toArray, List.set_cons_zero, List.set_cons_succ, i64_w, i32_w]
          rfl
        refine done_ (done_of HT_.out (by kernel_rfl)) ?_
        try go_wp2
        go_ret
        exact ⟨_,by first|rfl|(simp [errW_none,errW_some] <;>rfl)|(simp [*,errW_none,errW_some] <;>rfl),by (with_reducible repeat (first|apply Kd.R_alloc|apply Kd.R_drewN|apply Kd.R_drew));exact HO143.out,by repeat (first|(with_reducible first|exact HB.out|apply below_alloc|apply pw_below_drewN|apply below_drew1|refine below_set ?_ GE129.out)|exact HB.out)⟩
      · rw [if_neg c5] at H
        exact absurd H (by simp)
    · rw [if_neg c3] at H
      exact absurd H (by simp)
  · rw [if_neg c2] at H
    have c2b0:((l0_4.length:Int)==2)=false:=beq_eq_false_iff_ne.mpr c2
    have c2b1:((l0_4.length:Int) !=2)=true:=bne_iff_ne.mpr c2
    obtain ⟨y144,hy144⟩:∃y_:List (S98),y_=(([(⟨a0_0,a0_1,a0_2⟩:S98)]:List (S98))):=⟨_,rfl⟩
    replace H:((syntax_vars.f k y144).bind fun t147=>(some t147))=some r:=by first|(rw [hy144];with_reducible exact H)|(have H2_:=(Option.bind_some _ _).symm.trans H;rw [hy144];with_reducible exact H2_)|(have H2_:=(Option.bind_some _ _).symm.trans H;with_reducible exact H2_)|with_reducible exact H|(rw [hy144];exact H)|exact H
    have Ny144:=Aside0.mk hy144
    clear hy144
    replace H:=Option.bind_eq_some_iff.mp H
    obtain ⟨t147,A190,H⟩:=H
    replace H:(some t147)=some r:=H
    have A19:=Aside0.mk A190
    clear A190
    obtain rfl:=Option.some.inj H
    go_enter Tryz.func66,Tryz.ntmps66
    go_wp2_with (first|((with_reducible refine gate_dst (N:=1) rfl ?_);refine box_event ?hg (N:=1) ?hd (cs:= #[.int .i64 a0_0,.string a0_1,.int .i64 a0_2,.int .i64 a0_3,.slice A0_4 l0_4.length c0_4]) (t:=104) ?hr ?_;(case hd=>rfl);(case hg=>rfl);(case hr=>first|(go_simp;done)|(go_simp;rfl));intro gb129 hg w20 hbox hb;have n0_:=Aside0.mk (below_step (by repeat (first|(with_reducible first|exact HB.out|apply below_alloc|apply pw_below_drewN|apply below_drew1)|exact HB.out)) hb);have n1_:=Aside0.mk (hbox);have n2_:=Aside0.mk ((by rw [hg];exact (below_size (by repeat (first|(with_reducible first|exact HB.out|apply below_alloc|apply pw_below_drewN|apply below_drew1)|exact HB.out))):w.heap.size≤gb129));have n3_:=Aside0.mk ((by rw [hg];exact (below_size (by repeat (first|(with_reducible first|exact HB.out|apply below_alloc|apply pw_below_drewN|apply below_drew1)|exact HB.out))):w.heap.size≤gb129));clear HB;have HB:=n0_;have BK129:=n1_;have GW129:=n2_;have GE129:=n3_;clear n0_ n1_ n2_ n3_;clear hb hbox hg;have hcz21_0:w20.cell? ⟨gb129,0,none⟩=some (.int .i64 a0_0):=(blk_cell BK129.out 0).trans rfl;have hcz21_1:w20.cell? ⟨gb129,1,none⟩=some (.string a0_1):=(blk_cell BK129.out 1).trans rfl;have hcz21_2:w20.cell? ⟨gb129,2,none⟩=some (.int .i64 a0_2):=(blk_cell BK129.out 2).trans rfl;have hcz21_3:w20.cell? ⟨gb129,3,none⟩=some (.int .i64 a0_3):=(blk_cell BK129.out 3).trans rfl;have hcz21_4:w20.cell? ⟨gb129,4,none⟩=some (.slice A0_4 l0_4.length c0_4):=(blk_cell BK129.out 4).trans rfl;have hfz21_0:=blk_frozen BK129.out 0;have hfz21_1:=blk_frozen BK129.out 1;have hfz21_2:=blk_frozen BK129.out 2;have hfz21_3:=blk_frozen BK129.out 3;have hfz21_4:=blk_frozen BK129.out 4)|((with_reducible refine gate_dst (N:=9) rfl ?_);refine Kd.R_lit k98 _ 98 ?hg (N:=9) ?hd (xs:=([(⟨a0_0,a0_1,a0_2⟩:S98)]:List (S98))) (inner:=[.int .i64 a0_0,.string a0_1,.int .i64 a0_2]) (ok:=fun _=>True) (okp:=fun _=>True) ?hr ?hp (fun _ hk=>hk) trivial (Below.refl _ _) (Nat.le_refl _) (by simp) ?_;(case hd=>rfl);(case hg=>rfl);(case hr=>first|(go_simp;done)|(go_simp;rfl));(case hp=>exact (Reps.c3 (show Kd.M k98 _ _ _ (⟨a0_0,a0_1,a0_2⟩:S98) [.int .i64 a0_0,.string a0_1,.int .i64 a0_2] from (k98_mkM _ _ _ (⟨a0_0,a0_1,a0_2⟩:S98))) (Reps.none _ _)));intro v145 w22 ho23 hb hg_ hnew_;clear hg_ hnew_;(first|rw [←Ny144.out] at ho23|(simp only [Int.reduceToNat] at ho23;rw [←Ny144.out] at ho23));have n0_:=Aside0.mk (Kd.R_lower ho23 (below_size (by repeat (first|(with_reducible first|exact HB.out|apply below_alloc|apply pw_below_drewN|apply below_drew1|refine below_set ?_ GE129.out)|exact HB.out))));have n1_:=Aside0.mk (blk_below (g:=gb129) (o:= .cells #[.int .i64 a0_0,.string a0_1,.int .i64 a0_2,.int .i64 a0_3,.slice A0_4 l0_4.length c0_4] 104 (0,0)) (by (with_reducible repeat (first|refine blk_drewN ?_ _|refine blk_drew ?_|refine blk_alloc ?_ _));exact BK129.out) hb);have n2_:=Aside0.mk (below_step (by repeat (first|(with_reducible first|exact HB.out|apply below_alloc|apply pw_below_drewN|apply below_drew1|refine below_set ?_ GE129.out)|exact HB.out)) hb);clear BK129;clear HB;have HO146:=n0_;have BK129:=n1_;have HB:=n2_;clear n0_ n1_ n2_;clear hb ho23;obtain ⟨Ao24,co24,eo24⟩:=Kd.R_slice HO146.out;subst eo24)|((with_reducible refine gate_callee (f:=67) rfl ?_);refine goesL_ (some 10) rfl rfl Tryz.func67 (by kernel_rfl) rfl #[.slice Ao24 y144.length co24] rfl (by (try simp only [List.map_toArray,List.map_cons,List.map_nil]);first|done|rfl|(simp only [List.length_drop,List.length_take];rfl)) ?_;(with_reducible refine (syntax_vars.calls k _ _ y144 t147 _ ?side1 ?side2 A19.out).mono ?_);(case side1=>repeat (first|exact (Kd.R_reads' HO146.out).2.2|(with_reducible refine Kd.C_alloc ?_ _)|(with_reducible refine Kd.C_drewN ?_ _)|(with_reducible refine Kd.C_drew ?_)));(case side2=>exact (Kd.R_reads' HO146.out).2.1);rintro e w25 ⟨v148,rfl,ho0,hb⟩;refine ⟨_,rfl,?_⟩;have n0_:=Aside0.mk (Kd.R_below (by (with_reducible repeat (first|apply Kd.R_alloc|apply Kd.R_drewN|apply Kd.R_drew));exact HO146.out) hb);have n1_:=Aside0.mk (Kd.R_lower ho0 (below_size (by repeat (first|(with_reducible first|exact HB.out|apply below_alloc|apply pw_below_drewN|apply below_drew1|refine below_set ?_ GE129.out)|exact HB.out))));have n2_:=Aside0.mk (blk_below (g:=gb129) (o:= .cells #[.int .i64 a0_0,.string a0_1,.int .i64 a0_2,.int .i64 a0_3,.slice A0_4 l0_4.length c0_4] 104 (0,0)) (by (with_reducible repeat (first|refine blk_drewN ?_ _|refine blk_drew ?_|refine blk_alloc ?_ _));exact BK129.out) hb);have n3_:=Aside0.mk (below_step (by repeat (first|(with_reducible first|exact HB.out|apply below_alloc|apply pw_below_drewN|apply below_drew1|refine below_set ?_ GE129.out)|exact HB.out)) hb);clear HO146;clear BK129;clear HB;have HO146:=n0_;have HO149:=n1_;have BK129:=n2_;have HB:=n3_;clear n0_ n1_ n2_ n3_;(try clear hb);(try clear hb2);(try clear hk);(try clear hi);(try clear ho0)))
    go_ret
    exact ⟨_,by first|rfl|(simp [errW_none,errW_some] <;>rfl)|(simp [*,errW_none,errW_some] <;>rfl),by (with_reducible repeat (first|apply Kd.R_alloc|apply Kd.R_drewN|apply Kd.R_drew));exact HO149.out,by repeat (first|(with_reducible first|exact HB.out|apply below_alloc|apply pw_below_drewN|apply below_drew1|refine below_set ?_ GE129.out)|exact HB.out)⟩
def syntax_Part_Vars.f (k:Nat) (a0_0:Int) (a0_1:ByteArray) (l0_2:List (S98)) (a0_3:Int) (a0_4:Int) (a0_5:ByteArray) (a0_6:Int) (a0_7:Int) (a0_8:ByteArray) (a0_9:Int) (a0_10:ByteArray) (a0_11:Int) (a0_12:ByteArray) (a0_13:Int) (a0_14:Int) (l0_15:List (S104)):Option (List ByteArray):=if a0_0=2 then ((syntax_vars.f k (([(⟨a0_4,a0_5,a0_6⟩:S98),(⟨a0_7,a0_8,a0_9⟩:S98)]:List (S98)))).bind fun t154=>(some t154)) else (if a0_0=3 then ((some (([a0_10]:List ByteArray):List ByteArray)).bind fun y157=>((syntax_Expr_Vars.f k a0_11 a0_12 a0_13 a0_14 l0_15).bind fun t160=>(if y157.length+t160.length<8796093022208 then (some (y157++t160)) else (none)))) else ((syntax_Atom_Vars.f k a0_1 l0_2).bind fun t166=>(some t166)))
def syntax_Part_Vars.T5:Bool×List (List Nat×List Nat):=(true,[([],[]),([0],[0]),([1],[1]),([],[]),([3],[3]),([4],[4]),([2,5,5],[2,5]),([6,6,0,1,2,3,4,5,6],[6])])
def syntax_Part_Vars.B5:List Nat:=[0,1,3,0,8,24,63,127]
theorem syntax_Part_Vars.tab5:rtab .any (opsOf Tryz.f36 5)=syntax_Part_Vars.T5:=by kernel_rfl
theorem syntax_Part_Vars.bits5:waitsOk syntax_Part_Vars.T5.2 syntax_Part_Vars.B5=true:=by kernel_rfl
set_option maxHeartbeats 8000000 in
set_option maxRecDepth 100000 in
theorem syntax_Part_Vars.calls (k:Nat) (a0_0:Int) (a0_1:ByteArray) (A0_2:Option Addr) (c0_2:Nat) (l0_2:List (S98)) (a0_3:Int) (a0_4:Int) (a0_5:ByteArray) (a0_6:Int) (a0_7:Int) (a0_8:ByteArray) (a0_9:Int) (a0_10:ByteArray) (a0_11:Int) (a0_12:ByteArray) (a0_13:Int) (a0_14:Int) (A0_15:Option Addr) (c0_15:Nat) (l0_15:List (S104)) (r:List ByteArray) (w:World) (hr0_2:Kd.C k98 w A0_2 l0_2.length l0_2) (hc0_2:l0_2.length≤c0_2) (hr0_15:Kd.C k104 w A0_15 l0_15.length l0_15) (hc0_15:l0_15.length≤c0_15) (h:syntax_Part_Vars.f k a0_0 a0_1 l0_2 a0_3 a0_4 a0_5 a0_6 a0_7 a0_8 a0_9 a0_10 a0_11 a0_12 a0_13 a0_14 l0_15=some r):
    Calls Tryz.prog 36 #[.agg #[.int .i64 a0_0,.string a0_1,.slice A0_2 l0_2.length c0_2,.int .i64 a0_3,.int .i64 a0_4,.string a0_5,.int .i64 a0_6,.int .i64 a0_7,.string a0_8,.int .i64 a0_9,.string a0_10,.int .i64 a0_11,.string a0_12,.int .i64 a0_13,.int .i64 a0_14,.slice A0_15 l0_15.length c0_15]] w fun e w'=>∃v0_:Value,e= .returned (v0_)∧Kd.R Kd.string 9 w' w.heap.size (fun _=>True) v0_ r∧Below w.heap.size w w':=by
  have hu106:=Tryz.underlying106
  have hu98:=Tryz.underlying98
  have hu104:=Tryz.underlying104
  have hu33:=Tryz.underlying33
  have HR0_2:=Aside0.mk hr0_2
  have HC0_2:=Aside0.mk hc0_2
  clear hr0_2 hc0_2
  have HR0_15:=Aside0.mk hr0_15
  have HC0_15:=Aside0.mk hc0_15
  clear hr0_15 hc0_15
  have HB:=Aside0.mk (Below.refl w.heap.size w)
  have H:(if a0_0=2 then ((syntax_vars.f k (([(⟨a0_4,a0_5,a0_6⟩:S98),(⟨a0_7,a0_8,a0_9⟩:S98)]:List (S98)))).bind fun t154=>(some t154)) else (if a0_0=3 then ((some (([a0_10]:List ByteArray):List ByteArray)).bind fun y157=>((syntax_Expr_Vars.f k a0_11 a0_12 a0_13 a0_14 l0_15).bind fun t160=>(if y157.length+t160.length<8796093022208 then (some (y157++t160)) else (none)))) else ((syntax_Atom_Vars.f k a0_1 l0_2).bind fun t166=>(some t166))))=some r:=h
  clear h
  by_cases c2:a0_0=2
  · rw [if_pos c2] at H
    have c2b0:(a0_0==2)=true:=beq_iff_eq.mpr c2
    have c2b1:(a0_0 !=2)=false:=bne_eq_false_iff_eq.mpr c2
    clear c2
    obtain ⟨y151,hy151⟩:∃y_:List (S98),y_=(([(⟨a0_4,a0_5,a0_6⟩:S98),(⟨a0_7,a0_8,a0_9⟩:S98)]:List (S98))):=⟨_,rfl⟩
    replace H:((syntax_vars.f k y151).bind fun t154=>(some t154))=some r:=by first|(rw [hy151];with_reducible exact H)|(have H2_:=(Option.bind_some _ _).symm.trans H;rw [hy151];with_reducible exact H2_)|(have H2_:=(Option.bind_some _ _).symm.trans H;with_reducible exact H2_)|with_reducible exact H|(rw [hy151];exact H)|exact H
    have Ny151:=Aside0.mk hy151
    clear hy151
    replace H:=Option.bind_eq_some_iff.mp H
    obtain ⟨t154,A30,H⟩:=H
    replace H:(some t154)=some r:=H
    have A3:=Aside0.mk A30
    clear A30
    obtain rfl:=Option.some.inj H
    go_enter Tryz.func36,Tryz.ntmps36
    go_wp2_with (first|((with_reducible refine gate_dst (N:=1) rfl ?_);refine box_event ?hg (N:=1) ?hd (cs:= #[.int .i64 a0_0,.string a0_1,.slice A0_2 l0_2.length c0_2,.int .i64 a0_3,.int .i64 a0_4,.string a0_5,.int .i64 a0_6,.int .i64 a0_7,.string a0_8,.int .i64 a0_9,.string a0_10,.int .i64 a0_11,.string a0_12,.int .i64 a0_13,.int .i64 a0_14,.slice A0_15 l0_15.length c0_15]) (t:=106) ?hr ?_;(case hd=>rfl);(case hg=>rfl);(case hr=>first|(go_simp;done)|(go_simp;rfl));intro gb150 hg w4 hbox hb;have n0_:=Aside0.mk (below_step (by repeat (first|(with_reducible first|exact HB.out|apply below_alloc|apply pw_below_drewN|apply below_drew1)|exact HB.out)) hb);have n1_:=Aside0.mk (hbox);have n2_:=Aside0.mk ((by rw [hg];exact (below_size (by repeat (first|(with_reducible first|exact HB.out|apply below_alloc|apply pw_below_drewN|apply below_drew1)|exact HB.out))):w.heap.size≤gb150));have n3_:=Aside0.mk ((by rw [hg];exact (below_size (by repeat (first|(with_reducible first|exact HB.out|apply below_alloc|apply pw_below_drewN|apply below_drew1)|exact HB.out))):w.heap.size≤gb150));clear HB;have HB:=n0_;have BK150:=n1_;have GW150:=n2_;have GE150:=n3_;clear n0_ n1_ n2_ n3_;clear hb hbox hg;have hcz5_0:w4.cell? ⟨gb150,0,none⟩=some (.int .i64 a0_0):=(blk_cell BK150.out 0).trans rfl;have hcz5_1:w4.cell? ⟨gb150,1,none⟩=some (.string a0_1):=(blk_cell BK150.out 1).trans rfl;have hcz5_2:w4.cell? ⟨gb150,2,none⟩=some (.slice A0_2 l0_2.length c0_2):=(blk_cell BK150.out 2).trans rfl;have hcz5_3:w4.cell? ⟨gb150,3,none⟩=some (.int .i64 a0_3):=(blk_cell BK150.out 3).trans rfl;have hcz5_4:w4.cell? ⟨gb150,4,none⟩=some (.int .i64 a0_4):=(blk_cell BK150.out 4).trans rfl;have hcz5_5:w4.cell? ⟨gb150,5,none⟩=some (.string a0_5):=(blk_cell BK150.out 5).trans rfl;have hcz5_6:w4.cell? ⟨gb150,6,none⟩=some (.int .i64 a0_6):=(blk_cell BK150.out 6).trans rfl;have hcz5_7:w4.cell? ⟨gb150,7,none⟩=some (.int .i64 a0_7):=(blk_cell BK150.out 7).trans rfl;have hcz5_8:w4.cell? ⟨gb150,8,none⟩=some (.string a0_8):=(blk_cell BK150.out 8).trans rfl;have hcz5_9:w4.cell? ⟨gb150,9,none⟩=some (.int .i64 a0_9):=(blk_cell BK150.out 9).trans rfl;have hcz5_10:w4.cell? ⟨gb150,10,none⟩=some (.string a0_10):=(blk_cell BK150.out 10).trans rfl;have hcz5_11:w4.cell? ⟨gb150,11,none⟩=some (.int .i64 a0_11):=(blk_cell BK150.out 11).trans rfl;have hcz5_12:w4.cell? ⟨gb150,12,none⟩=some (.string a0_12):=(blk_cell BK150.out 12).trans rfl;have hcz5_13:w4.cell? ⟨gb150,13,none⟩=some (.int .i64 a0_13):=(blk_cell BK150.out 13).trans rfl;have hcz5_14:w4.cell? ⟨gb150,14,none⟩=some (.int .i64 a0_14):=(blk_cell BK150.out 14).trans rfl;have hcz5_15:w4.cell? ⟨gb150,15,none⟩=some (.slice A0_15 l0_15.length c0_15):=(blk_cell BK150.out 15).trans rfl;have hfz5_0:=blk_frozen BK150.out 0;have hfz5_1:=blk_frozen BK150.out 1;have hfz5_2:=blk_frozen BK150.out 2;have hfz5_3:=blk_frozen BK150.out 3;have hfz5_4:=blk_frozen BK150.out 4;have hfz5_5:=blk_frozen BK150.out 5;have hfz5_6:=blk_frozen BK150.out 6;have hfz5_7:=blk_frozen BK150.out 7;have hfz5_8:=blk_frozen BK150.out 8;have hfz5_9:=blk_frozen BK150.out 9;have hfz5_10:=blk_frozen BK150.out 10;have hfz5_11:=blk_frozen BK150.out 11;have hfz5_12:=blk_frozen BK150.out 12;have hfz5_13:=blk_frozen BK150.out 13;have hfz5_14:=blk_frozen BK150.out 14;have hfz5_15:=blk_frozen BK150.out 15)|((with_reducible refine gate_dst (N:=11) rfl ?_);refine Kd.R_lit k98 _ 98 ?hg (N:=11) ?hd (xs:=([(⟨a0_4,a0_5,a0_6⟩:S98),(⟨a0_7,a0_8,a0_9⟩:S98)]:List (S98))) (inner:=[.int .i64 a0_4,.string a0_5,.int .i64 a0_6,.int .i64 a0_7,.string a0_8,.int .i64 a0_9]) (ok:=fun _=>True) (okp:=fun _=>True) ?hr ?hp (fun _ hk=>hk) trivial (Below.refl _ _) (Nat.le_refl _) (by simp) ?_;(case hd=>rfl);(case hg=>rfl);(case hr=>first|(go_simp;done)|(go_simp;rfl));(case hp=>exact (Reps.c3 (show Kd.M k98 _ _ _ (⟨a0_4,a0_5,a0_6⟩:S98) [.int .i64 a0_4,.string a0_5,.int .i64 a0_6] from (k98_mkM _ _ _ (⟨a0_4,a0_5,a0_6⟩:S98))) (Reps.c3 (show Kd.M k98 _ _ _ (⟨a0_7,a0_8,a0_9⟩:S98) [.int .i64 a0_7,.string a0_8,.int .i64 a0_9] from (k98_mkM _ _ _ (⟨a0_7,a0_8,a0_9⟩:S98))) (Reps.none _ _))));intro v152 w6 ho7 hb hg_ hnew_;clear hg_ hnew_;(first|rw [←Ny151.out] at ho7|(simp only [Int.reduceToNat] at ho7;rw [←Ny151.out] at ho7));have n0_:=Aside0.mk (Kd.R_lower ho7 (below_size (by repeat (first|(with_reducible first|exact HB.out|apply below_alloc|apply pw_below_drewN|apply below_drew1|refine below_set ?_ GE150.out)|exact HB.out))));have n1_:=Aside0.mk (blk_below (g:=gb150) (o:= .cells #[.int .i64 a0_0,.string a0_1,.slice A0_2 l0_2.length c0_2,.int .i64 a0_3,.int .i64 a0_4,.string a0_5,.int .i64 a0_6,.int .i64 a0_7,.string a0_8,.int .i64 a0_9,.string a0_10,.int .i64 a0_11,.string a0_12,.int .i64 a0_13,.int .i64 a0_14,.slice A0_15 l0_15.length c0_15] 106 (0,0)) (by (with_reducible repeat (first|refine blk_drewN ?_ _|refine blk_drew ?_|refine blk_alloc ?_ _));exact BK150.out) hb);have n2_:=Aside0.mk (below_step (by repeat (first|(with_reducible first|exact HB.out|apply below_alloc|apply pw_below_drewN|apply below_drew1|refine below_set ?_ GE150.out)|exact HB.out)) hb);clear BK150;clear HB;have HO153:=n0_;have BK150:=n1_;have HB:=n2_;clear n0_ n1_ n2_;clear hb ho7;obtain ⟨Ao8,co8,eo8⟩:=Kd.R_slice HO153.out;subst eo8)|((with_reducible refine gate_callee (f:=67) rfl ?_);refine goesL_ (some 12) rfl rfl Tryz.func67 (by kernel_rfl) rfl #[.slice Ao8 y151.length co8] rfl (by (try simp only [List.map_toArray,List.map_cons,List.map_nil]);first|done|rfl|(simp only [List.length_drop,List.length_take];rfl)) ?_;(with_reducible refine (syntax_vars.calls k _ _ y151 t154 _ ?side1 ?side2 A3.out).mono ?_);(case side1=>repeat (first|exact (Kd.R_reads' HO153.out).2.2|(with_reducible refine Kd.C_alloc ?_ _)|(with_reducible refine Kd.C_drewN ?_ _)|(with_reducible refine Kd.C_drew ?_)));(case side2=>exact (Kd.R_reads' HO153.out).2.1);rintro e w9 ⟨v155,rfl,ho0,hb⟩;refine ⟨_,rfl,?_⟩;have n0_:=Aside0.mk (Kd.R_below (by (with_reducible repeat (first|apply Kd.R_alloc|apply Kd.R_drewN|apply Kd.R_drew));exact HO153.out) hb);have n1_:=Aside0.mk (Kd.R_lower ho0 (below_size (by repeat (first|(with_reducible first|exact HB.out|apply below_alloc|apply pw_below_drewN|apply below_drew1|refine below_set ?_ GE150.out)|exact HB.out))));have n2_:=Aside0.mk (blk_below (g:=gb150) (o:= .cells #[.int .i64 a0_0,.string a0_1,.slice A0_2 l0_2.length c0_2,.int .i64 a0_3,.int .i64 a0_4,.string a0_5,.int .i64 a0_6,.int .i64 a0_7,.string a0_8,.int .i64 a0_9,.string a0_10,.int .i64 a0_11,.string a0_12,.int .i64 a0_13,.int .i64 a0_14,.slice A0_15 l0_15.length c0_15] 106 (0,0)) (by (with_reducible repeat (first|refine blk_drewN ?_ _|refine blk_drew ?_|refine blk_alloc ?_ _));exact BK150.out) hb);have n3_:=Aside0.mk (below_step (by repeat (first|(with_reducible first|exact HB.out|apply below_alloc|apply pw_below_drewN|apply below_drew1|refine below_set ?_ GE150.out)|exact HB.out)) hb);clear HO153;clear BK150;clear HB;have HO153:=n0_;have HO156:=n1_;have BK150:=n2_;have HB:=n3_;clear n0_ n1_ n2_ n3_;(try clear hb);(try clear hb2);(try clear hk);(try clear hi);(try clear ho0)))
    go_ret
    exact ⟨_,by first|rfl|(simp [errW_none,errW_some] <;>rfl)|(simp [*,errW_none,errW_some] <;>rfl),by (with_reducible repeat (first|apply Kd.R_alloc|apply Kd.R_drewN|apply Kd.R_drew));exact HO156.out,by repeat (first|(with_reducible first|exact HB.out|apply below_alloc|apply pw_below_drewN|apply below_drew1|refine below_set ?_ GE150.out)|exact HB.out)⟩
  · rw [if_neg c2] at H
    have c2b0:(a0_0==2)=false:=beq_eq_false_iff_ne.mpr c2
    have c2b1:(a0_0 !=2)=true:=bne_iff_ne.mpr c2
    by_cases c10:a0_0=3
    · rw [if_pos c10] at H
      have c10b0:(a0_0==3)=true:=beq_iff_eq.mpr c10
      have c10b1:(a0_0 !=3)=false:=bne_eq_false_iff_eq.mpr c10
      clear c10
      obtain ⟨y157,hy157⟩:∃y_:List ByteArray,y_=(([a0_10]:List ByteArray)):=⟨_,rfl⟩
      replace H:((syntax_Expr_Vars.f k a0_11 a0_12 a0_13 a0_14 l0_15).bind fun t160=>(if y157.length+t160.length<8796093022208 then (some (y157++t160)) else (none)))=some r:=by first|(rw [hy157];with_reducible exact H)|(have H2_:=(Option.bind_some _ _).symm.trans H;rw [hy157];with_reducible exact H2_)|(have H2_:=(Option.bind_some _ _).symm.trans H;with_reducible exact H2_)|with_reducible exact H|(rw [hy157];exact H)|exact H
      have Ny157:=Aside0.mk hy157
      clear hy157
      replace H:=Option.bind_eq_some_iff.mp H
      obtain ⟨t160,A110,H⟩:=H
      replace H:(if y157.length+t160.length<8796093022208 then (some (y157++t160)) else (none))=some r:=H
      have A11:=Aside0.mk A110
      clear A110
      by_cases c12:y157.length+t160.length<8796093022208
      · rw [if_pos c12] at H
        have LMc12:=Aside0.mk c12
        clear c12
        obtain ⟨y163,hy163⟩:∃y_:List ByteArray,y_=(y157++t160):=⟨_,rfl⟩
        replace H:(some y163)=some r:=by first|(rw [hy163];with_reducible exact H)|(have H2_:=(Option.bind_some _ _).symm.trans H;rw [hy163];with_reducible exact H2_)|(have H2_:=(Option.bind_some _ _).symm.trans H;with_reducible exact H2_)|with_reducible exact H|(rw [hy163];exact H)|exact H
        have Ny163:=Aside0.mk hy163
        clear hy163
        obtain rfl:=Option.some.inj H
        go_enter Tryz.func36,Tryz.ntmps36
        try go_wp2_with (first|((with_reducible refine gate_dst (N:=1) rfl ?_);refine box_event ?hg (N:=1) ?hd (cs:= #[.int .i64 a0_0,.string a0_1,.slice A0_2 l0_2.length c0_2,.int .i64 a0_3,.int .i64 a0_4,.string a0_5,.int .i64 a0_6,.int .i64 a0_7,.string a0_8,.int .i64 a0_9,.string a0_10,.int .i64 a0_11,.string a0_12,.int .i64 a0_13,.int .i64 a0_14,.slice A0_15 l0_15.length c0_15]) (t:=106) ?hr ?_;(case hd=>rfl);(case hg=>rfl);(case hr=>first|(go_simp;done)|(go_simp;rfl));intro gb150 hg w13 hbox hb;have n0_:=Aside0.mk (below_step (by repeat (first|(with_reducible first|exact HB.out|apply below_alloc|apply pw_below_drewN|apply below_drew1)|exact HB.out)) hb);have n1_:=Aside0.mk (hbox);have n2_:=Aside0.mk ((by rw [hg];exact (below_size (by repeat (first|(with_reducible first|exact HB.out|apply below_alloc|apply pw_below_drewN|apply below_drew1)|exact HB.out))):w.heap.size≤gb150));have n3_:=Aside0.mk ((by rw [hg];exact (below_size (by repeat (first|(with_reducible first|exact HB.out|apply below_alloc|apply pw_below_drewN|apply below_drew1)|exact HB.out))):w.heap.size≤gb150));clear HB;have HB:=n0_;have BK150:=n1_;have GW150:=n2_;have GE150:=n3_;clear n0_ n1_ n2_ n3_;clear hb hbox hg;have hcz14_0:w13.cell? ⟨gb150,0,none⟩=some (.int .i64 a0_0):=(blk_cell BK150.out 0).trans rfl;have hcz14_1:w13.cell? ⟨gb150,1,none⟩=some (.string a0_1):=(blk_cell BK150.out 1).trans rfl;have hcz14_2:w13.cell? ⟨gb150,2,none⟩=some (.slice A0_2 l0_2.length c0_2):=(blk_cell BK150.out 2).trans rfl;have hcz14_3:w13.cell? ⟨gb150,3,none⟩=some (.int .i64 a0_3):=(blk_cell BK150.out 3).trans rfl;have hcz14_4:w13.cell? ⟨gb150,4,none⟩=some (.int .i64 a0_4):=(blk_cell BK150.out 4).trans rfl;have hcz14_5:w13.cell? ⟨gb150,5,none⟩=some (.string a0_5):=(blk_cell BK150.out 5).trans rfl;have hcz14_6:w13.cell? ⟨gb150,6,none⟩=some (.int .i64 a0_6):=(blk_cell BK150.out 6).trans rfl;have hcz14_7:w13.cell? ⟨gb150,7,none⟩=some (.int .i64 a0_7):=(blk_cell BK150.out 7).trans rfl;have hcz14_8:w13.cell? ⟨gb150,8,none⟩=some (.string a0_8):=(blk_cell BK150.out 8).trans rfl;have hcz14_9:w13.cell? ⟨gb150,9,none⟩=some (.int .i64 a0_9):=(blk_cell BK150.out 9).trans rfl;have hcz14_10:w13.cell? ⟨gb150,10,none⟩=some (.string a0_10):=(blk_cell BK150.out 10).trans rfl;have hcz14_11:w13.cell? ⟨gb150,11,none⟩=some (.int .i64 a0_11):=(blk_cell BK150.out 11).trans rfl;have hcz14_12:w13.cell? ⟨gb150,12,none⟩=some (.string a0_12):=(blk_cell BK150.out 12).trans rfl;have hcz14_13:w13.cell? ⟨gb150,13,none⟩=some (.int .i64 a0_13):=(blk_cell BK150.out 13).trans rfl;have hcz14_14:w13.cell? ⟨gb150,14,none⟩=some (.int .i64 a0_14):=(blk_cell BK150.out 14).trans rfl;have hcz14_15:w13.cell? ⟨gb150,15,none⟩=some (.slice A0_15 l0_15.length c0_15):=(blk_cell BK150.out 15).trans rfl;have hfz14_0:=blk_frozen BK150.out 0;have hfz14_1:=blk_frozen BK150.out 1;have hfz14_2:=blk_frozen BK150.out 2;have hfz14_3:=blk_frozen BK150.out 3;have hfz14_4:=blk_frozen BK150.out 4;have hfz14_5:=blk_frozen BK150.out 5;have hfz14_6:=blk_frozen BK150.out 6;have hfz14_7:=blk_frozen BK150.out 7;have hfz14_8:=blk_frozen BK150.out 8;have hfz14_9:=blk_frozen BK150.out 9;have hfz14_10:=blk_frozen BK150.out 10;have hfz14_11:=blk_frozen BK150.out 11;have hfz14_12:=blk_frozen BK150.out 12;have hfz14_13:=blk_frozen BK150.out 13;have hfz14_14:=blk_frozen BK150.out 14;have hfz14_15:=blk_frozen BK150.out 15))
        have n0_:=Aside0.mk (blk_drew BK150.out)
        have n1_:=Aside0.mk (below_drew1 HB.out)
        clear BK150
        clear HB
        have BK150:=n0_
        have HB:=n1_
        clear n0_ n1_
        refine start_ (n:=8) (S:=fun w'=>w'.cell? ⟨gb150,0,none⟩=some (.int .i64 a0_0)∧w'.cell? ⟨gb150,1,none⟩=some (.string a0_1)∧w'.cell? ⟨gb150,2,none⟩=some (.slice A0_2 l0_2.length c0_2)∧w'.cell? ⟨gb150,3,none⟩=some (.int .i64 a0_3)∧w'.cell? ⟨gb150,4,none⟩=some (.int .i64 a0_4)∧w'.cell? ⟨gb150,5,none⟩=some (.string a0_5)∧w'.cell? ⟨gb150,6,none⟩=some (.int .i64 a0_6)∧w'.cell? ⟨gb150,7,none⟩=some (.int .i64 a0_7)∧w'.cell? ⟨gb150,8,none⟩=some (.string a0_8)∧w'.cell? ⟨gb150,9,none⟩=some (.int .i64 a0_9)∧w'.cell? ⟨gb150,10,none⟩=some (.string a0_10)∧w'.cell? ⟨gb150,11,none⟩=some (.int .i64 a0_11)∧w'.cell? ⟨gb150,12,none⟩=some (.string a0_12)∧w'.cell? ⟨gb150,13,none⟩=some (.int .i64 a0_13)∧w'.cell? ⟨gb150,14,none⟩=some (.int .i64 a0_14)∧w'.cell? ⟨gb150,15,none⟩=some (.slice A0_15 l0_15.length c0_15)) (ds:=[]) #[false,false,false,false,false,false,false,false] (by kernel_rfl) rfl rfl ⟨(blk_cell BK150.out 0).trans rfl,(blk_cell BK150.out 1).trans rfl,(blk_cell BK150.out 2).trans rfl,(blk_cell BK150.out 3).trans rfl,(blk_cell BK150.out 4).trans rfl,(blk_cell BK150.out 5).trans rfl,(blk_cell BK150.out 6).trans rfl,(blk_cell BK150.out 7).trans rfl,(blk_cell BK150.out 8).trans rfl,(blk_cell BK150.out 9).trans rfl,(blk_cell BK150.out 10).trans rfl,(blk_cell BK150.out 11).trans rfl,(blk_cell BK150.out 12).trans rfl,(blk_cell BK150.out 13).trans rfl,(blk_cell BK150.out 14).trans rfl,(blk_cell BK150.out 15).trans rfl⟩ (fun hHeld=> ?_);refine with_tabW syntax_Part_Vars.tab5 syntax_Part_Vars.bits5 (fun HT_ HW_=> ?_)
        generalize w13.drew=w15 at BK150 HB hHeld ⊢
        refine pure_ (i:=0) (N:=some 15) (v:= ?_) (a':= ?_) #[true,false,false,false,false,false,false,false] rfl rfl (any_of HT_.out (by kernel_rfl)) (fun _ _ _ h=>h) (Or.inl ⟨by rfl,?_⟩) ?_ ?_
        rotate_left
        · intro w'
          go_simp
          with_reducible rfl
        rotate_left
        · simp only [Act.put, List.setIfInBounds_toArray, List.set_cons_zero, List.set_cons_succ, i64_w, i32_w]
          rfl
        refine pure_ (i:=3) (N:=some 18) (v:= ?_) (a':= ?_) #[true,false,false,true,false,false,false,false] rfl rfl (any_of HT_.out (by kernel_rfl)) (fun _ _ _ h=>h) (Or.inl ⟨by rfl,?_⟩) ?_ ?_
        rotate_left
        · intro w'
          go_simp
          with_reducible rfl
        rotate_left
        · simp only [Act.put, List.setIfInBounds_toArray, List.set_cons_zero, List.set_cons_succ, i64_w, i32_w]
          rfl
        refine take_ (i:=1) (N:=some 16) (v:= ?_) (a':= ?_) #[true,true,false,true,false,false,false,false] rfl rfl (take_ofW HT_.out HW_.out (by kernel_rfl)) (fun _ _ _ h=>h) (Or.inl ⟨by rfl,?_⟩) hHeld ?_ ?_
        rotate_left
        · rintro w' ⟨s0, s1, s2, s3, s4, s5, s6, s7, s8, s9, s10, s11, s12, s13, s14, s15⟩
          go_simp
          with_reducible rfl
        rotate_left
        · simp only [Act.put, List.setIfInBounds_toArray, List.set_cons_zero, List.set_cons_succ, i64_w, i32_w]
          rfl
        refine take_ (i:=4) (N:=some 19) (v:= ?_) (a':= ?_) #[true,true,false,true,true,false,false,false] rfl rfl (take_ofW HT_.out HW_.out (by kernel_rfl)) (fun _ _ _ h=>h) (Or.inl ⟨by rfl,?_⟩) hHeld ?_ ?_
        rotate_left
        · rintro w' ⟨s0, s1, s2, s3, s4, s5, s6, s7, s8, s9, s10, s11, s12, s13, s14, s15⟩
          go_simp
          with_reducible rfl
        rotate_left
        · simp only [Act.put, List.setIfInBounds_toArray, List.set_cons_zero, List.set_cons_succ, i64_w, i32_w]
          rfl
        refine join_ (σ:=Value×Value) 2 #[true,true,true,true,true,true,false,false] (fun s_=>[(17,s_.1),(20,s_.2)]) (fun s_ w'=>(w'.cell? ⟨gb150,0,none⟩=some (.int .i64 a0_0)∧w'.cell? ⟨gb150,1,none⟩=some (.string a0_1)∧w'.cell? ⟨gb150,2,none⟩=some (.slice A0_2 l0_2.length c0_2)∧w'.cell? ⟨gb150,3,none⟩=some (.int .i64 a0_3)∧w'.cell? ⟨gb150,4,none⟩=some (.int .i64 a0_4)∧w'.cell? ⟨gb150,5,none⟩=some (.string a0_5)∧w'.cell? ⟨gb150,6,none⟩=some (.int .i64 a0_6)∧w'.cell? ⟨gb150,7,none⟩=some (.int .i64 a0_7)∧w'.cell? ⟨gb150,8,none⟩=some (.string a0_8)∧w'.cell? ⟨gb150,9,none⟩=some (.int .i64 a0_9)∧w'.cell? ⟨gb150,10,none⟩=some (.string a0_10)∧w'.cell? ⟨gb150,11,none⟩=some (.int .i64 a0_11)∧w'.cell? ⟨gb150,12,none⟩=some (.string a0_12)∧w'.cell? ⟨gb150,13,none⟩=some (.int .i64 a0_13)∧w'.cell? ⟨gb150,14,none⟩=some (.int .i64 a0_14)∧w'.cell? ⟨gb150,15,none⟩=some (.slice A0_15 l0_15.length c0_15))∧(Kd.R Kd.string 9 w' w.heap.size (fun k_=>some k_≠(s_.2:Value).ownBlock) s_.1 y157)∧(Kd.R Kd.string 9 w' w.heap.size (fun k_=>some k_≠(s_.1:Value).ownBlock) s_.2 t160)∧(w'.heap[gb150]? =some (.cells #[.int .i64 a0_0,.string a0_1,.slice A0_2 l0_2.length c0_2,.int .i64 a0_3,.int .i64 a0_4,.string a0_5,.int .i64 a0_6,.int .i64 a0_7,.string a0_8,.int .i64 a0_9,.string a0_10,.int .i64 a0_11,.string a0_12,.int .i64 a0_13,.int .i64 a0_14,.slice A0_15 l0_15.length c0_15] 106 (0,0)))∧(Below w.heap.size w w')) ?_ ?_
        rotate_left
        · intro hCont
          refine two_ (i:=2) (j:=5) (Ni:=some 17) (Nj:=some 20) #[true,true,true,true,true,false,false,false] #[true,true,false,true,true,true,false,false] rfl rfl rfl rfl (two_of HT_.out (by kernel_rfl)) (by decide) (by decide) (fun K hK=> ?_) (fun K hK=> ?_)
          · skip
            refine Kd.R_lit_step Kd.string _ 9 ?hg (N:=17) ?hd (xs:=([a0_10]:List ByteArray)) (inner:=[.string a0_10]) (ok:=fun _=>True) (okp:=fun _=>True) ?hr ?hp (fun _ hk=>hk) trivial (Below.refl _ _) (Nat.le_refl _) (by simp) ?_;(case hd=>rfl);(case hg=>rfl);(case hr=>first|(go_simp;done)|(go_simp;rfl));(case hp=>exact (Reps.one (show Kd.M Kd.string _ _ _ a0_10 [.string a0_10] from rfl) (Reps.none _ _)))
            intro v158 w16 ho17 hb hg_ hnew_
            clear hg_ hnew_
            (first|rw [←Ny157.out] at ho17|(simp only [Int.reduceToNat] at ho17;rw [←Ny157.out] at ho17))
            have n0_:=Aside0.mk (Kd.R_lower ho17 (below_size (by repeat (first|(with_reducible first|exact HB.out|apply below_alloc|apply pw_below_drewN|apply below_drew1|refine below_set ?_ GE150.out)|exact HB.out))))
            have n1_:=Aside0.mk (blk_below (g:=gb150) (o:= .cells #[.int .i64 a0_0,.string a0_1,.slice A0_2 l0_2.length c0_2,.int .i64 a0_3,.int .i64 a0_4,.string a0_5,.int .i64 a0_6,.int .i64 a0_7,.string a0_8,.int .i64 a0_9,.string a0_10,.int .i64 a0_11,.string a0_12,.int .i64 a0_13,.int .i64 a0_14,.slice A0_15 l0_15.length c0_15] 106 (0,0)) (by (with_reducible repeat (first|refine blk_drewN ?_ _|refine blk_drew ?_|refine blk_alloc ?_ _));exact BK150.out) hb)
            have n2_:=Aside0.mk (below_step (by repeat (first|(with_reducible first|exact HB.out|apply below_alloc|apply pw_below_drewN|apply below_drew1|refine below_set ?_ GE150.out)|exact HB.out)) hb)
            clear BK150
            clear HB
            have HO159:=n0_
            have BK150:=n1_
            have HB:=n2_
            clear n0_ n1_ n2_
            clear hb ho17
            refine hK.out _ _ ⟨(blk_cell BK150.out 0).trans rfl,(blk_cell BK150.out 1).trans rfl,(blk_cell BK150.out 2).trans rfl,(blk_cell BK150.out 3).trans rfl,(blk_cell BK150.out 4).trans rfl,(blk_cell BK150.out 5).trans rfl,(blk_cell BK150.out 6).trans rfl,(blk_cell BK150.out 7).trans rfl,(blk_cell BK150.out 8).trans rfl,(blk_cell BK150.out 9).trans rfl,(blk_cell BK150.out 10).trans rfl,(blk_cell BK150.out 11).trans rfl,(blk_cell BK150.out 12).trans rfl,(blk_cell BK150.out 13).trans rfl,(blk_cell BK150.out 14).trans rfl,(blk_cell BK150.out 15).trans rfl⟩ (fun hHeld=> ?_)
            clear hK K
            refine norm_ (a':= ?_) ?_ ?_
            rotate_left
            · show Act.put _ (some 17) _ = _
              simp only [Act.put,List.setIfInBounds_toArray,List.set_cons_zero,List.set_cons_succ,i64_w,i32_w]
              rfl
            refine one_ (i:=5) (N:=some 20) #[true,true,true,true,true,true,false,false] rfl rfl (one_of HT_.out (by kernel_rfl)) (by decide) (fun K hK=> ?_)
            refine goes_ Tryz.func66 (by kernel_rfl) rfl #[.agg #[.int .i64 a0_11,.string a0_12,.int .i64 a0_13,.int .i64 a0_14,.slice A0_15 l0_15.length c0_15]] (by rfl) rfl rfl (by (try simp only [List.map_toArray,List.map_cons,List.map_nil]);first|done|rfl|(simp only [List.length_drop,List.length_take];rfl)) ?_
            with_reducible refine (syntax_Expr_Vars.calls k a0_11 a0_12 a0_13 a0_14 _ _ l0_15 t160 _ ?side1 ?side2 A11.out).mono ?_
            (case side1=>repeat (first|exact (Kd.C_below HR0_15.out HB.out)|(with_reducible refine Kd.C_alloc ?_ _)|(with_reducible refine Kd.C_drewN ?_ _)|(with_reducible refine Kd.C_drew ?_)))
            (case side2=>exact HC0_15.out)
            rintro e w18 ⟨v161,rfl,ho0,hb⟩
            refine ⟨_,rfl,?_⟩
            have n0_:=Aside0.mk (Kd.R_elder' (by (with_reducible repeat (first|apply Kd.R_alloc|apply Kd.R_drewN|apply Kd.R_drew));exact HO159.out) (Kd.R_base ho0) hb)
            have n1_:=Aside0.mk (Kd.R_lower (Kd.R_new' ho0 (Kd.R_lt (by (with_reducible repeat (first|apply Kd.R_alloc|apply Kd.R_drewN|apply Kd.R_drew));exact HO159.out))) (below_size (by repeat (first|(with_reducible first|exact HB.out|apply below_alloc|apply pw_below_drewN|apply below_drew1|refine below_set ?_ GE150.out)|exact HB.out))))
            have n2_:=Aside0.mk (blk_below (g:=gb150) (o:= .cells #[.int .i64 a0_0,.string a0_1,.slice A0_2 l0_2.length c0_2,.int .i64 a0_3,.int .i64 a0_4,.string a0_5,.int .i64 a0_6,.int .i64 a0_7,.string a0_8,.int .i64 a0_9,.string a0_10,.int .i64 a0_11,.string a0_12,.int .i64 a0_13,.int .i64 a0_14,.slice A0_15 l0_15.length c0_15] 106 (0,0)) (by (with_reducible repeat (first|refine blk_drewN ?_ _|refine blk_drew ?_|refine blk_alloc ?_ _));exact BK150.out) hb)
            have n3_:=Aside0.mk (below_step (by repeat (first|(with_reducible first|exact HB.out|apply below_alloc|apply pw_below_drewN|apply below_drew1|refine below_set ?_ GE150.out)|exact HB.out)) hb)
            clear HO159
            clear BK150
            clear HB
            have HO159:=n0_
            have HO162:=n1_
            have BK150:=n2_
            have HB:=n3_
            clear n0_ n1_ n2_ n3_
            (try clear hb)
            (try clear hb2)
            (try clear hk)
            (try clear hi)
            (try clear ho0)
            refine hK.out _ _ ⟨(blk_cell BK150.out 0).trans rfl,(blk_cell BK150.out 1).trans rfl,(blk_cell BK150.out 2).trans rfl,(blk_cell BK150.out 3).trans rfl,(blk_cell BK150.out 4).trans rfl,(blk_cell BK150.out 5).trans rfl,(blk_cell BK150.out 6).trans rfl,(blk_cell BK150.out 7).trans rfl,(blk_cell BK150.out 8).trans rfl,(blk_cell BK150.out 9).trans rfl,(blk_cell BK150.out 10).trans rfl,(blk_cell BK150.out 11).trans rfl,(blk_cell BK150.out 12).trans rfl,(blk_cell BK150.out 13).trans rfl,(blk_cell BK150.out 14).trans rfl,(blk_cell BK150.out 15).trans rfl⟩ (fun hHeld=> ?_)
            clear hK K
            refine norm_ (a':= ?_) ?_ ?_
            rotate_left
            · show Act.put _ (some 20) _ = _
              simp only [Act.put,List.setIfInBounds_toArray,List.set_cons_zero,List.set_cons_succ,i64_w,i32_w]
              rfl
            exact norm_ (by simp only [putAll,Act.put,List.setIfInBounds_toArray,List.set_cons_zero,List.set_cons_succ]) (hCont (v158,v161) _ ⟨hHeld,(by (with_reducible repeat (first|apply Kd.R_alloc|apply Kd.R_drewN|apply Kd.R_drew));exact Kd.R_mono HO159.out (fun _ hk=>hk.2)),(by (with_reducible repeat (first|apply Kd.R_alloc|apply Kd.R_drewN|apply Kd.R_drew));exact Kd.R_mono HO162.out (fun _ hk=>hk.2)),(by (with_reducible repeat (first|refine blk_drewN ?_ _|refine blk_drew ?_|refine blk_alloc ?_ _));exact BK150.out),(by repeat (first|(with_reducible first|exact HB.out|apply below_alloc|apply pw_below_drewN|apply below_drew1|refine below_set ?_ GE150.out)|exact HB.out))⟩)
          · skip
            refine goes_ Tryz.func66 (by kernel_rfl) rfl #[.agg #[.int .i64 a0_11,.string a0_12,.int .i64 a0_13,.int .i64 a0_14,.slice A0_15 l0_15.length c0_15]] (by rfl) rfl rfl (by (try simp only [List.map_toArray,List.map_cons,List.map_nil]);first|done|rfl|(simp only [List.length_drop,List.length_take];rfl)) ?_
            with_reducible refine (syntax_Expr_Vars.calls k a0_11 a0_12 a0_13 a0_14 _ _ l0_15 t160 _ ?side1 ?side2 A11.out).mono ?_
            (case side1=>repeat (first|exact (Kd.C_below HR0_15.out HB.out)|(with_reducible refine Kd.C_alloc ?_ _)|(with_reducible refine Kd.C_drewN ?_ _)|(with_reducible refine Kd.C_drew ?_)))
            (case side2=>exact HC0_15.out)
            rintro e w16 ⟨v161,rfl,ho0,hb⟩
            refine ⟨_,rfl,?_⟩
            have n0_:=Aside0.mk (Kd.R_lower ho0 (below_size (by repeat (first|(with_reducible first|exact HB.out|apply below_alloc|apply pw_below_drewN|apply below_drew1|refine below_set ?_ GE150.out)|exact HB.out))))
            have n1_:=Aside0.mk (blk_below (g:=gb150) (o:= .cells #[.int .i64 a0_0,.string a0_1,.slice A0_2 l0_2.length c0_2,.int .i64 a0_3,.int .i64 a0_4,.string a0_5,.int .i64 a0_6,.int .i64 a0_7,.string a0_8,.int .i64 a0_9,.string a0_10,.int .i64 a0_11,.string a0_12,.int .i64 a0_13,.int .i64 a0_14,.slice A0_15 l0_15.length c0_15] 106 (0,0)) (by (with_reducible repeat (first|refine blk_drewN ?_ _|refine blk_drew ?_|refine blk_alloc ?_ _));exact BK150.out) hb)
            have n2_:=Aside0.mk (below_step (by repeat (first|(with_reducible first|exact HB.out|apply below_alloc|apply pw_below_drewN|apply below_drew1|refine below_set ?_ GE150.out)|exact HB.out)) hb)
            clear BK150
            clear HB
            have HO162:=n0_
            have BK150:=n1_
            have HB:=n2_
            clear n0_ n1_ n2_
            (try clear hb)
            (try clear hb2)
            (try clear hk)
            (try clear hi)
            (try clear ho0)
            refine hK.out _ _ ⟨(blk_cell BK150.out 0).trans rfl,(blk_cell BK150.out 1).trans rfl,(blk_cell BK150.out 2).trans rfl,(blk_cell BK150.out 3).trans rfl,(blk_cell BK150.out 4).trans rfl,(blk_cell BK150.out 5).trans rfl,(blk_cell BK150.out 6).trans rfl,(blk_cell BK150.out 7).trans rfl,(blk_cell BK150.out 8).trans rfl,(blk_cell BK150.out 9).trans rfl,(blk_cell BK150.out 10).trans rfl,(blk_cell BK150.out 11).trans rfl,(blk_cell BK150.out 12).trans rfl,(blk_cell BK150.out 13).trans rfl,(blk_cell BK150.out 14).trans rfl,(blk_cell BK150.out 15).trans rfl⟩ (fun hHeld=> ?_)
            clear hK K
            refine norm_ (a':= ?_) ?_ ?_
            rotate_left
            · show Act.put _ (some 20) _ = _
              simp only [Act.put,List.setIfInBounds_toArray,List.set_cons_zero,List.set_cons_succ,i64_w,i32_w]
              rfl
            refine one_ (i:=2) (N:=some 17) #[true,true,true,true,true,true,false,false] rfl rfl (one_of HT_.out (by kernel_rfl)) (by decide) (fun K hK=> ?_)
            refine Kd.R_lit_step Kd.string _ 9 ?hg (N:=17) ?hd (xs:=([a0_10]:List ByteArray)) (inner:=[.string a0_10]) (ok:=fun _=>True) (okp:=fun _=>True) ?hr ?hp (fun _ hk=>hk) trivial (Below.refl _ _) (Nat.le_refl _) (by simp) ?_;(case hd=>rfl);(case hg=>rfl);(case hr=>first|(go_simp;done)|(go_simp;rfl));(case hp=>exact (Reps.one (show Kd.M Kd.string _ _ _ a0_10 [.string a0_10] from rfl) (Reps.none _ _)))
            intro v158 w17 ho18 hb hg_ hnew_
            clear hg_ hnew_
            (first|rw [←Ny157.out] at ho18|(simp only [Int.reduceToNat] at ho18;rw [←Ny157.out] at ho18))
            have n0_:=Aside0.mk (Kd.R_elder' (by (with_reducible repeat (first|apply Kd.R_alloc|apply Kd.R_drewN|apply Kd.R_drew));exact HO162.out) (Kd.R_base ho18) hb)
            have n1_:=Aside0.mk (Kd.R_lower (Kd.R_new' ho18 (Kd.R_lt (by (with_reducible repeat (first|apply Kd.R_alloc|apply Kd.R_drewN|apply Kd.R_drew));exact HO162.out))) (below_size (by repeat (first|(with_reducible first|exact HB.out|apply below_alloc|apply pw_below_drewN|apply below_drew1|refine below_set ?_ GE150.out)|exact HB.out))))
            have n2_:=Aside0.mk (blk_below (g:=gb150) (o:= .cells #[.int .i64 a0_0,.string a0_1,.slice A0_2 l0_2.length c0_2,.int .i64 a0_3,.int .i64 a0_4,.string a0_5,.int .i64 a0_6,.int .i64 a0_7,.string a0_8,.int .i64 a0_9,.string a0_10,.int .i64 a0_11,.string a0_12,.int .i64 a0_13,.int .i64 a0_14,.slice A0_15 l0_15.length c0_15] 106 (0,0)) (by (with_reducible repeat (first|refine blk_drewN ?_ _|refine blk_drew ?_|refine blk_alloc ?_ _));exact BK150.out) hb)
            have n3_:=Aside0.mk (below_step (by repeat (first|(with_reducible first|exact HB.out|apply below_alloc|apply pw_below_drewN|apply below_drew1|refine below_set ?_ GE150.out)|exact HB.out)) hb)
            clear HO162
            clear BK150
            clear HB
            have HO162:=n0_
            have HO159:=n1_
            have BK150:=n2_
            have HB:=n3_
            clear n0_ n1_ n2_ n3_
            clear hb ho18
            refine hK.out _ _ ⟨(blk_cell BK150.out 0).trans rfl,(blk_cell BK150.out 1).trans rfl,(blk_cell BK150.out 2).trans rfl,(blk_cell BK150.out 3).trans rfl,(blk_cell BK150.out 4).trans rfl,(blk_cell BK150.out 5).trans rfl,(blk_cell BK150.out 6).trans rfl,(blk_cell BK150.out 7).trans rfl,(blk_cell BK150.out 8).trans rfl,(blk_cell BK150.out 9).trans rfl,(blk_cell BK150.out 10).trans rfl,(blk_cell BK150.out 11).trans rfl,(blk_cell BK150.out 12).trans rfl,(blk_cell BK150.out 13).trans rfl,(blk_cell BK150.out 14).trans rfl,(blk_cell BK150.out 15).trans rfl⟩ (fun hHeld=> ?_)
            clear hK K
            refine norm_ (a':= ?_) ?_ ?_
            rotate_left
            · show Act.put _ (some 17) _ = _
              simp only [Act.put,List.setIfInBounds_toArray,List.set_cons_zero,List.set_cons_succ,i64_w,i32_w]
              rfl
            exact norm_ (by simp only [putAll,Act.put,List.setIfInBounds_toArray,List.set_cons_zero,List.set_cons_succ]) (hCont (v158,v161) _ ⟨hHeld,(by (with_reducible repeat (first|apply Kd.R_alloc|apply Kd.R_drewN|apply Kd.R_drew));exact Kd.R_mono HO159.out (fun _ hk=>hk.2)),(by (with_reducible repeat (first|apply Kd.R_alloc|apply Kd.R_drewN|apply Kd.R_drew));exact Kd.R_mono HO162.out (fun _ hk=>hk.2)),(by (with_reducible repeat (first|refine blk_drewN ?_ _|refine blk_drew ?_|refine blk_alloc ?_ _));exact BK150.out),(by repeat (first|(with_reducible first|exact HB.out|apply below_alloc|apply pw_below_drewN|apply below_drew1|refine below_set ?_ GE150.out)|exact HB.out))⟩)
        rintro ⟨v158,v161⟩ w19 ⟨hS_,h0_,h1_,h2_,h3_⟩
        have n0_:Aside0 (Kd.R Kd.string 9 w19 w.heap.size (fun k_=>some k_≠(v161:Value).ownBlock) v158 y157):=⟨h0_⟩
        have n1_:Aside0 (Kd.R Kd.string 9 w19 w.heap.size (fun k_=>some k_≠(v158:Value).ownBlock) v161 t160):=⟨h1_⟩
        have n2_:Aside0 (w19.heap[gb150]? =some (.cells #[.int .i64 a0_0,.string a0_1,.slice A0_2 l0_2.length c0_2,.int .i64 a0_3,.int .i64 a0_4,.string a0_5,.int .i64 a0_6,.int .i64 a0_7,.string a0_8,.int .i64 a0_9,.string a0_10,.int .i64 a0_11,.string a0_12,.int .i64 a0_13,.int .i64 a0_14,.slice A0_15 l0_15.length c0_15] 106 (0,0))):=⟨h2_⟩
        have n3_:Aside0 (Below w.heap.size w w19):=⟨h3_⟩
        clear BK150
        clear HB
        clear h0_ h1_ h2_ h3_
        have HO159:=n0_
        have HO162:=n1_
        have BK150:=n2_
        have HB:=n3_
        clear n0_ n1_ n2_ n3_
        have hHeld:w19.cell? ⟨gb150,0,none⟩=some (.int .i64 a0_0)∧w19.cell? ⟨gb150,1,none⟩=some (.string a0_1)∧w19.cell? ⟨gb150,2,none⟩=some (.slice A0_2 l0_2.length c0_2)∧w19.cell? ⟨gb150,3,none⟩=some (.int .i64 a0_3)∧w19.cell? ⟨gb150,4,none⟩=some (.int .i64 a0_4)∧w19.cell? ⟨gb150,5,none⟩=some (.string a0_5)∧w19.cell? ⟨gb150,6,none⟩=some (.int .i64 a0_6)∧w19.cell? ⟨gb150,7,none⟩=some (.int .i64 a0_7)∧w19.cell? ⟨gb150,8,none⟩=some (.string a0_8)∧w19.cell? ⟨gb150,9,none⟩=some (.int .i64 a0_9)∧w19.cell? ⟨gb150,10,none⟩=some (.string a0_10)∧w19.cell? ⟨gb150,11,none⟩=some (.int .i64 a0_11)∧w19.cell? ⟨gb150,12,none⟩=some (.string a0_12)∧w19.cell? ⟨gb150,13,none⟩=some (.int .i64 a0_13)∧w19.cell? ⟨gb150,14,none⟩=some (.int .i64 a0_14)∧w19.cell? ⟨gb150,15,none⟩=some (.slice A0_15 l0_15.length c0_15):=hS_
        obtain ⟨Ao21,co21,eo21⟩:=Kd.R_slice HO162.out
        (first|subst eo21|(injection eo21 with f1_ f2_ f3_;have f4_:=f1_.symm;have f5_:=f3_.symm;clear f1_ f2_ f3_;subst f4_;subst f5_))
        refine norm_ (a':= ?_) ?_ ?_
        rotate_left
        · simp only [putAll, Act.put, List.setIfInBounds_toArray, List.set_cons_zero, List.set_cons_succ]
          rfl
        refine one_ (i:=6) (N:=some 21) #[true,true,true,true,true,true,true,false] rfl rfl (one_of HT_.out (by kernel_rfl)) (by decide) (fun K hK=> ?_)
        refine Kd.R_append_rows_step Kd.string (w0:=w) w.heap.size (by rfl) (.tmp 17) (.tmp 20) 74 9 (.string ⟨#[]⟩) 16 rfl Tryz.underlying74 info9 rfl (by decide) (by omega) v158 y157 t160 _ _ _ (fun k_=>some k_≠(.slice Ao21 t160.length co21:Value).ownBlock) (fun _=>False) rfl rfl ?aO ?aR (fun _ _ h=>h) (fun _ h=>h.elim) ?aF ?aB ?aS ?aL ?_
        (case aR=>repeat (first|exact (Kd.R_reads' HO162.out).2.2|(with_reducible refine Kd.C_alloc ?_ _)|(with_reducible refine Kd.C_drewN ?_ _)|(with_reducible refine Kd.C_drew ?_)))
        (case aB=>exact (by repeat (first|(with_reducible first|exact HB.out|apply below_alloc|apply pw_below_drewN|apply below_drew1|refine below_set ?_ GE150.out)|exact HB.out)))
        (case aF=>exact (fun k_ hk=>Kd.fresh' (Kd.R_lt (by (with_reducible repeat (first|apply Kd.R_alloc|apply Kd.R_drewN|apply Kd.R_drew));exact HO162.out)) k_ hk))
        (case aO=>exact (by (with_reducible repeat (first|apply Kd.R_alloc|apply Kd.R_drewN|apply Kd.R_drew));exact HO159.out))
        (case aS=>exact (below_size (by repeat (first|(with_reducible first|exact HB.out|apply below_alloc|apply pw_below_drewN|apply below_drew1|refine below_set ?_ GE150.out)|exact HB.out))))
        (case aL=>have:=LMc12.out;omega)
        intro v164 w20 ho hb hg hat
        rw [←Ny163.out] at ho
        have n0_:=Aside0.mk (blk_grown (g:=gb150) (o:= .cells #[.int .i64 a0_0,.string a0_1,.slice A0_2 l0_2.length c0_2,.int .i64 a0_3,.int .i64 a0_4,.string a0_5,.int .i64 a0_6,.int .i64 a0_7,.string a0_8,.int .i64 a0_9,.string a0_10,.int .i64 a0_11,.string a0_12,.int .i64 a0_13,.int .i64 a0_14,.slice A0_15 l0_15.length c0_15] 106 (0,0)) (by (with_reducible repeat (first|refine blk_drewN ?_ _|refine blk_drew ?_|refine blk_alloc ?_ _));exact BK150.out) hg (Kd.R_ne HO159.out BK150.out (by decide)))
        have n1_:=Aside0.mk (Kd.R_after (ok:=(fun _=>True)) (by (with_reducible repeat (first|apply Kd.R_alloc|apply Kd.R_drewN|apply Kd.R_drew));exact Kd.R_mono HO162.out (fun _ hk=>⟨trivial,hk⟩)) hg hat)
        have n2_:=Aside0.mk (hb)
        have n3_:=Aside0.mk (ho)
        clear BK150
        clear HO162
        clear HB
        clear HO159
        have BK150:=n0_
        have HO162:=n1_
        have HB:=n2_
        have HO165:=n3_
        clear n0_ n1_ n2_ n3_
        clear ho hb hg hat
        refine hK.out _ _ ⟨(blk_cell BK150.out 0).trans rfl,(blk_cell BK150.out 1).trans rfl,(blk_cell BK150.out 2).trans rfl,(blk_cell BK150.out 3).trans rfl,(blk_cell BK150.out 4).trans rfl,(blk_cell BK150.out 5).trans rfl,(blk_cell BK150.out 6).trans rfl,(blk_cell BK150.out 7).trans rfl,(blk_cell BK150.out 8).trans rfl,(blk_cell BK150.out 9).trans rfl,(blk_cell BK150.out 10).trans rfl,(blk_cell BK150.out 11).trans rfl,(blk_cell BK150.out 12).trans rfl,(blk_cell BK150.out 13).trans rfl,(blk_cell BK150.out 14).trans rfl,(blk_cell BK150.out 15).trans rfl⟩ (fun hHeld=> ?_)
        clear hK K
        refine norm_ (a':= ?_) ?_ ?_
        rotate_left
        · show Act.put _ (some 21) _ = _
          simp only [Act.put,List.setIfInBounds_toArray,List.set_cons_zero,List.set_cons_succ,i64_w,i32_w]
          rfl
        refine pure_ (i:=7) (N:=some 2) (v:= ?_) (a':= ?_) #[true,true,true,true,true,true,true,true] rfl rfl (any_of HT_.out (by kernel_rfl)) (fun _ _ _ h=>h) (Or.inl ⟨by rfl,?_⟩) ?_ ?_
        rotate_left
        · intro w'
          go_simp
          with_reducible rfl
        rotate_left
        · simp only [Act.put, List.setIfInBounds_toArray, List.set_cons_zero, List.set_cons_succ, i64_w, i32_w]
          rfl
        refine done_ (done_of HT_.out (by kernel_rfl)) ?_
        try go_wp2
        go_ret
        exact ⟨_,by first|rfl|(simp [errW_none,errW_some] <;>rfl)|(simp [*,errW_none,errW_some] <;>rfl),by (with_reducible repeat (first|apply Kd.R_alloc|apply Kd.R_drewN|apply Kd.R_drew));exact Kd.R_mono HO165.out (fun _ hk=>trivial),by repeat (first|(with_reducible first|exact HB.out|apply below_alloc|apply pw_below_drewN|apply below_drew1|refine below_set ?_ GE150.out)|exact HB.out)⟩
      · rw [if_neg c12] at H
        exact absurd H (by simp)
    · rw [if_neg c10] at H
      have c10b0:(a0_0==3)=false:=beq_eq_false_iff_ne.mpr c10
      have c10b1:(a0_0 !=3)=true:=bne_iff_ne.mpr c10
      replace H:=Option.bind_eq_some_iff.mp H
      obtain ⟨t166,A220,H⟩:=H
      replace H:(some t166)=some r:=H
      have A22:=Aside0.mk A220
      clear A220
      obtain rfl:=Option.some.inj H
      go_enter Tryz.func36,Tryz.ntmps36
      go_wp2_with (first|((with_reducible refine gate_dst (N:=1) rfl ?_);refine box_event ?hg (N:=1) ?hd (cs:= #[.int .i64 a0_0,.string a0_1,.slice A0_2 l0_2.length c0_2,.int .i64 a0_3,.int .i64 a0_4,.string a0_5,.int .i64 a0_6,.int .i64 a0_7,.string a0_8,.int .i64 a0_9,.string a0_10,.int .i64 a0_11,.string a0_12,.int .i64 a0_13,.int .i64 a0_14,.slice A0_15 l0_15.length c0_15]) (t:=106) ?hr ?_;(case hd=>rfl);(case hg=>rfl);(case hr=>first|(go_simp;done)|(go_simp;rfl));intro gb150 hg w23 hbox hb;have n0_:=Aside0.mk (below_step (by repeat (first|(with_reducible first|exact HB.out|apply below_alloc|apply pw_below_drewN|apply below_drew1)|exact HB.out)) hb);have n1_:=Aside0.mk (hbox);have n2_:=Aside0.mk ((by rw [hg];exact (below_size (by repeat (first|(with_reducible first|exact HB.out|apply below_alloc|apply pw_below_drewN|apply below_drew1)|exact HB.out))):w.heap.size≤gb150));have n3_:=Aside0.mk ((by rw [hg];exact (below_size (by repeat (first|(with_reducible first|exact HB.out|apply below_alloc|apply pw_below_drewN|apply below_drew1)|exact HB.out))):w.heap.size≤gb150));clear HB;have HB:=n0_;have BK150:=n1_;have GW150:=n2_;have GE150:=n3_;clear n0_ n1_ n2_ n3_;clear hb hbox hg;have hcz24_0:w23.cell? ⟨gb150,0,none⟩=some (.int .i64 a0_0):=(blk_cell BK150.out 0).trans rfl;have hcz24_1:w23.cell? ⟨gb150,1,none⟩=some (.string a0_1):=(blk_cell BK150.out 1).trans rfl;have hcz24_2:w23.cell? ⟨gb150,2,none⟩=some (.slice A0_2 l0_2.length c0_2):=(blk_cell BK150.out 2).trans rfl;have hcz24_3:w23.cell? ⟨gb150,3,none⟩=some (.int .i64 a0_3):=(blk_cell BK150.out 3).trans rfl;have hcz24_4:w23.cell? ⟨gb150,4,none⟩=some (.int .i64 a0_4):=(blk_cell BK150.out 4).trans rfl;have hcz24_5:w23.cell? ⟨gb150,5,none⟩=some (.string a0_5):=(blk_cell BK150.out 5).trans rfl;have hcz24_6:w23.cell? ⟨gb150,6,none⟩=some (.int .i64 a0_6):=(blk_cell BK150.out 6).trans rfl;have hcz24_7:w23.cell? ⟨gb150,7,none⟩=some (.int .i64 a0_7):=(blk_cell BK150.out 7).trans rfl;have hcz24_8:w23.cell? ⟨gb150,8,none⟩=some (.string a0_8):=(blk_cell BK150.out 8).trans rfl;have hcz24_9:w23.cell? ⟨gb150,9,none⟩=some (.int .i64 a0_9):=(blk_cell BK150.out 9).trans rfl;have hcz24_10:w23.cell? ⟨gb150,10,none⟩=some (.string a0_10):=(blk_cell BK150.out 10).trans rfl;have hcz24_11:w23.cell? ⟨gb150,11,none⟩=some (.int .i64 a0_11):=(blk_cell BK150.out 11).trans rfl;have hcz24_12:w23.cell? ⟨gb150,12,none⟩=some (.string a0_12):=(blk_cell BK150.out 12).trans rfl;have hcz24_13:w23.cell? ⟨gb150,13,none⟩=some (.int .i64 a0_13):=(blk_cell BK150.out 13).trans rfl;have hcz24_14:w23.cell? ⟨gb150,14,none⟩=some (.int .i64 a0_14):=(blk_cell BK150.out 14).trans rfl;have hcz24_15:w23.cell? ⟨gb150,15,none⟩=some (.slice A0_15 l0_15.length c0_15):=(blk_cell BK150.out 15).trans rfl;have hfz24_0:=blk_frozen BK150.out 0;have hfz24_1:=blk_frozen BK150.out 1;have hfz24_2:=blk_frozen BK150.out 2;have hfz24_3:=blk_frozen BK150.out 3;have hfz24_4:=blk_frozen BK150.out 4;have hfz24_5:=blk_frozen BK150.out 5;have hfz24_6:=blk_frozen BK150.out 6;have hfz24_7:=blk_frozen BK150.out 7;have hfz24_8:=blk_frozen BK150.out 8;have hfz24_9:=blk_frozen BK150.out 9;have hfz24_10:=blk_frozen BK150.out 10;have hfz24_11:=blk_frozen BK150.out 11;have hfz24_12:=blk_frozen BK150.out 12;have hfz24_13:=blk_frozen BK150.out 13;have hfz24_14:=blk_frozen BK150.out 14;have hfz24_15:=blk_frozen BK150.out 15)|((with_reducible refine gate_callee (f:=37) rfl ?_);refine goesL_ (some 24) rfl rfl Tryz.func37 (by kernel_rfl) rfl #[.agg #[.string a0_1,.slice A0_2 l0_2.length c0_2]] rfl (by (try simp only [List.map_toArray,List.map_cons,List.map_nil]);first|done|rfl|(simp only [List.length_drop,List.length_take];rfl)) ?_;(with_reducible refine (syntax_Atom_Vars.calls k a0_1 _ _ l0_2 t166 _ ?side1 ?side2 A22.out).mono ?_);(case side1=>repeat (first|exact (Kd.C_below HR0_2.out HB.out)|(with_reducible refine Kd.C_alloc ?_ _)|(with_reducible refine Kd.C_drewN ?_ _)|(with_reducible refine Kd.C_drew ?_)));(case side2=>exact HC0_2.out);rintro e w25 ⟨v167,rfl,ho0,hb⟩;refine ⟨_,rfl,?_⟩;have n0_:=Aside0.mk (Kd.R_lower ho0 (below_size (by repeat (first|(with_reducible first|exact HB.out|apply below_alloc|apply pw_below_drewN|apply below_drew1|refine below_set ?_ GE150.out)|exact HB.out))));have n1_:=Aside0.mk (blk_below (g:=gb150) (o:= .cells #[.int .i64 a0_0,.string a0_1,.slice A0_2 l0_2.length c0_2,.int .i64 a0_3,.int .i64 a0_4,.string a0_5,.int .i64 a0_6,.int .i64 a0_7,.string a0_8,.int .i64 a0_9,.string a0_10,.int .i64 a0_11,.string a0_12,.int .i64 a0_13,.int .i64 a0_14,.slice A0_15 l0_15.length c0_15] 106 (0,0)) (by (with_reducible repeat (first|refine blk_drewN ?_ _|refine blk_drew ?_|refine blk_alloc ?_ _));exact BK150.out) hb);have n2_:=Aside0.mk (below_step (by repeat (first|(with_reducible first|exact HB.out|apply below_alloc|apply pw_below_drewN|apply below_drew1|refine below_set ?_ GE150.out)|exact HB.out)) hb);clear BK150;clear HB;have HO168:=n0_;have BK150:=n1_;have HB:=n2_;clear n0_ n1_ n2_;(try clear hb);(try clear hb2);(try clear hk);(try clear hi);(try clear ho0)))
      go_ret
      exact ⟨_,by first|rfl|(simp [errW_none,errW_some] <;>rfl)|(simp [*,errW_none,errW_some] <;>rfl),by (with_reducible repeat (first|apply Kd.R_alloc|apply Kd.R_drewN|apply Kd.R_drew));exact HO168.out,by repeat (first|(with_reducible first|exact HB.out|apply below_alloc|apply pw_below_drewN|apply below_drew1|refine below_set ?_ GE150.out)|exact HB.out)⟩
def slices_Index_string_string.l0:Nat→List ByteArray→ByteArray→Int→Int→Option (Int)
  |0,_,_,_,_=>none
  |k+1,x0,x1,x7,x8=>if x8<x7 then (if 0≤x8 then (if x8<(x0.length:Int) then (if x1.toList=(rdOf ByteArray.empty x0 x8).toList then (some x8) else (slices_Index_string_string.l0 k x0 x1 x7 (wrap64 (x8+1)))) else (none)) else (none)) else (some (-1))
def slices_Index_string_string.f (k:Nat) (l0:List ByteArray) (a1:ByteArray):Option (Int):=slices_Index_string_string.l0 k l0 a1 (l0.length:Int) 0
theorem slices_Index_string_string.mono_l:∀k,(∀y0 y1 y2 y3,LeO (slices_Index_string_string.l0 k y0 y1 y2 y3) (slices_Index_string_string.l0 (k+1) y0 y1 y2 y3))
  |0=>fun _ _ _ _ r h=>by simp [slices_Index_string_string.l0] at h
  |k+1=>by
    have ih0:=slices_Index_string_string.mono_l k
    · intro y0 y1 y2 y3
      unfold slices_Index_string_string.l0
      repeat' first
      |(with_reducible exact ih0 _ _ _ _)
      |(with_reducible exact LeO.refl _)
      |(with_reducible exact LeO.none _)
      |(with_reducible refine LeO.ite ?_ ?_)
      |(with_reducible refine LeO.bind ?_ (fun _=> ?_))
      |exact ih0 _ _ _ _
      |exact LeO.none _
      |refine LeO.ite ?_ ?_
      |refine LeO.bind ?_ (fun _=> ?_)
theorem slices_Index_string_string.mono:∀a0 a1 k,LeO (slices_Index_string_string.f k a0 a1) (slices_Index_string_string.f (k+1) a0 a1):=by
  intro a0 a1 k
  have ih0:=slices_Index_string_string.mono_l k
  unfold slices_Index_string_string.f
  repeat' first
      |(with_reducible exact ih0 _ _ _ _)
      |(with_reducible exact LeO.refl _)
      |(with_reducible exact LeO.none _)
      |(with_reducible refine LeO.ite ?_ ?_)
      |(with_reducible refine LeO.bind ?_ (fun _=> ?_))
      |exact ih0 _ _ _ _
      |exact LeO.none _
      |refine LeO.ite ?_ ?_
      |refine LeO.bind ?_ (fun _=> ?_)
set_option maxHeartbeats 8000000 in
set_option maxRecDepth 100000 in
theorem slices_Index_string_string.calls (k:Nat) (A0:Option Addr) (c0:Nat) (l0:List ByteArray) (a1:ByteArray) (r:Int) (w:World) (hr0:Kd.C Kd.string w A0 l0.length l0) (hc0:l0.length≤c0) (h:slices_Index_string_string.f k l0 a1=some r):
    Calls Tryz.prog 105 #[.slice A0 l0.length c0,.string a1] w fun e w'=>e= .returned (.int .i64 r)∧Drawn0 w w':=by
  have HR0:=Aside0.mk hr0
  have HC0:=Aside0.mk hc0
  clear hr0 hc0
  have H:(slices_Index_string_string.l0 k l0 a1 (l0.length:Int) 0)=some r:=h
  clear h
  have H':=Aside0.mk H
  clear H
  go_enter Tryz.func105,Tryz.ntmps105
  go_wp2
  go_loopg [8] k (fun kq v8 w'=>∃(x8_1:Int),v8= .int .i64 x8_1∧Aside0 (slices_Index_string_string.l0 kq l0 a1 (l0.length:Int) x8_1=some r)∧Aside0 (kq≤k)∧Drawn0 w w')
  case atStart=>exact ⟨(0),(by first|rfl|(simp;done)|(simp [*];done)),H',⟨Nat.le_refl _⟩,by repeat (first|exact Drawn0.refl _|apply Drawn0.step)⟩
  case round=>
    clear H'
    try clear c1
    try clear p2
    obtain ⟨x8_1,rfl,HA,HK1,⟨m1,rfl⟩⟩:=hrel
    cases gk with
    |zero=>exact absurd HA.out (by simp [slices_Index_string_string.l0])
    |succ k1=>
      have H:=HA.out
      clear HA
      simp only [slices_Index_string_string.l0] at H
      by_cases c3:x8_1<(l0.length:Int)
      · rw [if_pos c3] at H
        have c3b0:decide (x8_1<(l0.length:Int))=true:=decide_eq_true c3
        clear c3
        by_cases c4:0≤x8_1
        · rw [if_pos c4] at H
          have c4b0:decide (0≤x8_1)=true:=decide_eq_true c4
          clear c4
          by_cases c5:x8_1<(l0.length:Int)
          · rw [if_pos c5] at H
            have c5b0:decide (x8_1<(l0.length:Int))=true:=decide_eq_true c5
            clear c5
            by_cases c6:a1.toList=(rdOf ByteArray.empty l0 x8_1).toList
            · rw [if_pos c6] at H
              have c6b0:(a1.toList==(rdOf ByteArray.empty l0 x8_1).toList)=true:=beq_iff_eq.mpr c6
              have c6b1:(a1.toList !=(rdOf ByteArray.empty l0 x8_1).toList)=false:=bne_eq_false_iff_eq.mpr c6
              clear c6
              obtain rfl:=Option.some.inj H
              have p169:0≤(x8_1:Int):=of_decide_eq_true (by first|(with_reducible assumption)|assumption)
              have q169:x8_1<(l0.length:Int):=of_decide_eq_true (by first|(with_reducible assumption)|assumption)
              obtain ⟨ad169,e169,hx169_0⟩:=Kd.at_string HR0.out x8_1 p169 q169
              cases e169
              replace p169:=eq_true p169
              replace q169:=eq_true q169
              go_wp2
              go_ret
              exact ⟨by first|rfl|(simp;done)|(simp [*];done),by repeat (first|exact Drawn0.refl _|apply Drawn0.step)⟩
            · rw [if_neg c6] at H
              have c6b0:(a1.toList==(rdOf ByteArray.empty l0 x8_1).toList)=false:=beq_eq_false_iff_ne.mpr c6
              have c6b1:(a1.toList !=(rdOf ByteArray.empty l0 x8_1).toList)=true:=bne_iff_ne.mpr c6
              have H':=Aside0.mk H
              clear H
              have p169:0≤(x8_1:Int):=of_decide_eq_true (by first|(with_reducible assumption)|assumption)
              have q169:x8_1<(l0.length:Int):=of_decide_eq_true (by first|(with_reducible assumption)|assumption)
              obtain ⟨ad169,e169,hx169_0⟩:=Kd.at_string HR0.out x8_1 p169 q169
              cases e169
              replace p169:=eq_true p169
              replace q169:=eq_true q169
              go_wp2
              go_roundg k1
              case measure=>have:=HK1.out;omega
              case rel=>exact ⟨(wrap64 (x8_1+1)),(by first|rfl|(simp;done)|(simp [*];done)),H',⟨by have:=HK1.out;omega⟩,by repeat (first|exact Drawn0.refl _|apply Drawn0.step)⟩
          · rw [if_neg c5] at H
            exact absurd H (by simp)
        · rw [if_neg c4] at H
          exact absurd H (by simp)
      · rw [if_neg c3] at H
        have c3b0:decide (x8_1<(l0.length:Int))=false:=decide_eq_false c3
        clear c3
        obtain rfl:=Option.some.inj H
        go_wp2
        go_ret
        exact ⟨by first|rfl|(simp;done)|(simp [*];done),by repeat (first|exact Drawn0.refl _|apply Drawn0.step)⟩
def slices_Contains_string_string.f (k:Nat) (l0:List ByteArray) (a1:ByteArray):Option (Bool):=(slices_Index_string_string.f k l0 a1).bind fun t170=>(some (decide (t170≥0)))
theorem slices_Contains_string_string.mono:∀a0 a1 k,LeO (slices_Contains_string_string.f k a0 a1) (slices_Contains_string_string.f (k+1) a0 a1):=by
  intro a0 a1 k
  unfold slices_Contains_string_string.f
  repeat' first
      |(with_reducible exact slices_Index_string_string.mono _ _ _)
      |(with_reducible exact LeO.refl _)
      |(with_reducible exact LeO.none _)
      |(with_reducible refine LeO.ite ?_ ?_)
      |(with_reducible refine LeO.bind ?_ (fun _=> ?_))
      |exact slices_Index_string_string.mono _ _ _
      |exact LeO.none _
      |refine LeO.ite ?_ ?_
      |refine LeO.bind ?_ (fun _=> ?_)
set_option maxHeartbeats 8000000 in
set_option maxRecDepth 100000 in
theorem slices_Contains_string_string.calls (k:Nat) (A0:Option Addr) (c0:Nat) (l0:List ByteArray) (a1:ByteArray) (r:Bool) (w:World) (hr0:Kd.C Kd.string w A0 l0.length l0) (hc0:l0.length≤c0) (h:slices_Contains_string_string.f k l0 a1=some r):
    Calls Tryz.prog 81 #[.slice A0 l0.length c0,.string a1] w fun e w'=>e= .returned (.bool r)∧Drawn0 w w':=by
  have HR0:=Aside0.mk hr0
  have HC0:=Aside0.mk hc0
  clear hr0 hc0
  have H:((slices_Index_string_string.f k l0 a1).bind fun t170=>(some (decide (t170≥0))))=some r:=h
  clear h
  replace H:=Option.bind_eq_some_iff.mp H
  obtain ⟨t170,A30,H⟩:=H
  replace H:(some (decide (t170≥0)))=some r:=H
  have A3:=Aside0.mk A30
  clear A30
  obtain rfl:=Option.some.inj H
  go_enter Tryz.func81,Tryz.ntmps81
  go_wp2_with (first|((with_reducible refine gate_callee (f:=105) rfl ?_);refine goesL_ (some 7) rfl rfl Tryz.func105 (by kernel_rfl) rfl #[.slice A0 l0.length c0,.string a1] rfl (by (try simp only [List.map_toArray,List.map_cons,List.map_nil]);first|done|rfl|(simp only [List.length_drop,List.length_take];rfl)) ?_;(with_reducible refine (slices_Index_string_string.calls k _ _ l0 a1 t170 _ ?side1 ?side2 A3.out).mono ?_);(case side1=>repeat (first|exact HR0.out|(with_reducible refine Kd.C_alloc ?_ _)|(with_reducible refine Kd.C_drewN ?_ _)|(with_reducible refine Kd.C_drew ?_)));(case side2=>exact HC0.out);rintro e w' ⟨rfl,⟨nd,rfl⟩⟩;refine ⟨_,rfl,?_⟩))
  go_ret
  exact ⟨by first|rfl|(simp;done)|(simp [*];done),by repeat (first|exact Drawn0.refl _|apply Drawn0.step)⟩
end Go.Proofs.YtjlnpdpkobpkiaaGreatDoorPSP
namespace Go.Proofs.YtjlnpdpkobpkiaaGreatDoorPSP
open Go.RowKit Go.Proofs.YtjlnpdpkobpkiaaGreatDoorW.PrintWords Go.Proofs.YtjlnpdpkobpkiaaGreatDoorW.PrintLast Go.Proofs.YtjlnpdpkobpkiaaGreatDoorW.PrintMore
attribute [local go_sem] max2_int min2_int max_two min_two max_three min_three max_four min_four   -- for this text's walks alone
set_option linter.unusedVariables false
set_option linter.unusedSimpArgs false
attribute [local go_sem high] eqA98
mutual
def syntax_Rule_Vars.l0:Nat→List ByteArray→List (S106)→Int→Int→Option (List ByteArray)
  |0,_,_,_,_=>none
  |k+1,x3,x13,x14,x15=>if x15<x14 then (if 0≤x15 then (if x15<(x13.length:Int) then ((syntax_Part_Vars.f k ((rd_T106 x13 x15).f0) ((rd_T106 x13 x15).f1.f0) ((rd_T106 x13 x15).f1.f1) ((rd_T106 x13 x15).f2) ((rd_T106 x13 x15).f3.f0) ((rd_T106 x13 x15).f3.f1) ((rd_T106 x13 x15).f3.f2) ((rd_T106 x13 x15).f4.f0) ((rd_T106 x13 x15).f4.f1) ((rd_T106 x13 x15).f4.f2) ((rd_T106 x13 x15).f5) ((rd_T106 x13 x15).f6.f0.f0) ((rd_T106 x13 x15).f6.f0.f1) ((rd_T106 x13 x15).f6.f0.f2) ((rd_T106 x13 x15).f6.f1) ((rd_T106 x13 x15).f6.f2)).bind fun t177=>(if x3.length+t177.length<8796093022208 then (syntax_Rule_Vars.l0 k (x3++t177) x13 x14 (wrap64 (x15+1))) else (none))) else (none)) else (none)) else (syntax_Rule_Vars.l1 k ([]:List ByteArray) x3 (x3.length:Int) 0)
def syntax_Rule_Vars.l1:Nat→List ByteArray→List ByteArray→Int→Int→Option (List ByteArray)
  |0,_,_,_,_=>none
  |k+1,x6,x24,x25,x26=>if x26<x25 then (if 0≤x26 then (if x26<(x24.length:Int) then ((slices_Contains_string_string.f k x6 (rdOf ByteArray.empty x24 x26)).bind fun t184=>(if t184=true then (syntax_Rule_Vars.l1 k x6 x24 x25 (wrap64 (x26+1))) else (if x6.length<8796093022208 then (syntax_Rule_Vars.l1 k (x6++[rdOf ByteArray.empty x24 x26]) x24 x25 (wrap64 (x26+1))) else (none)))) else (none)) else (none)) else (some x6)
end
def syntax_Rule_Vars.f (k:Nat) (a0_0:ByteArray) (l0_1:List (S98)) (a0_2:Int) (l0_3:List (S106)) (a0_4:Int):Option (List ByteArray):=(syntax_Atom_Vars.f k a0_0 l0_1).bind fun t172=>(syntax_Rule_Vars.l0 k t172 l0_3 (l0_3.length:Int) 0)
set_option maxHeartbeats 8000000 in
set_option maxRecDepth 100000 in
theorem syntax_Rule_Vars.calls (k:Nat) (a0_0:ByteArray) (A0_1:Option Addr) (c0_1:Nat) (l0_1:List (S98)) (a0_2:Int) (A0_3:Option Addr) (c0_3:Nat) (l0_3:List (S106)) (a0_4:Int) (r:List ByteArray) (w:World) (hr0_1:Kd.C k98 w A0_1 l0_1.length l0_1) (hc0_1:l0_1.length≤c0_1) (hr0_3:Kd.C k106 w A0_3 l0_3.length l0_3) (hc0_3:l0_3.length≤c0_3) (h:syntax_Rule_Vars.f k a0_0 l0_1 a0_2 l0_3 a0_4=some r):
    Calls Tryz.prog 47 #[.agg #[.string a0_0,.slice A0_1 l0_1.length c0_1,.int .i64 a0_2,.slice A0_3 l0_3.length c0_3,.int .i64 a0_4]] w fun e w'=>∃v0_:Value,e= .returned (v0_)∧Kd.R Kd.string 9 w' w.heap.size (fun _=>True) v0_ r∧Below w.heap.size w w':=by
  have hu37:=Tryz.underlying37
  have hu33:=Tryz.underlying33
  have hu106:=Tryz.underlying106
  have HR0_1:=Aside0.mk hr0_1
  have HC0_1:=Aside0.mk hc0_1
  clear hr0_1 hc0_1
  have HR0_3:=Aside0.mk hr0_3
  have HC0_3:=Aside0.mk hc0_3
  clear hr0_3 hc0_3
  have HB:=Aside0.mk (Below.refl w.heap.size w)
  have H:((syntax_Atom_Vars.f k a0_0 l0_1).bind fun t172=>(syntax_Rule_Vars.l0 k t172 l0_3 (l0_3.length:Int) 0))=some r:=h
  clear h
  replace H:=Option.bind_eq_some_iff.mp H
  obtain ⟨t172,A20,H⟩:=H
  replace H:(syntax_Rule_Vars.l0 k t172 l0_3 (l0_3.length:Int) 0)=some r:=H
  have A2:=Aside0.mk A20
  clear A20
  have H':=Aside0.mk H
  clear H
  go_enter Tryz.func47,Tryz.ntmps47
  go_wp2_with (first|((with_reducible refine gate_dst (N:=1) rfl ?_);refine box_event ?hg (N:=1) ?hd (cs:= #[.string a0_0,.slice A0_1 l0_1.length c0_1,.int .i64 a0_2,.slice A0_3 l0_3.length c0_3,.int .i64 a0_4]) (t:=37) ?hr ?_;(case hd=>rfl);(case hg=>rfl);(case hr=>first|(go_simp;done)|(go_simp;rfl));intro gb171 hg w3 hbox hb;have n0_:=Aside0.mk (below_step (by repeat (first|(with_reducible first|exact HB.out|apply below_alloc|apply pw_below_drewN|apply below_drew1)|exact HB.out)) hb);have n1_:=Aside0.mk (hbox);have n2_:=Aside0.mk ((by rw [hg];exact (below_size (by repeat (first|(with_reducible first|exact HB.out|apply below_alloc|apply pw_below_drewN|apply below_drew1)|exact HB.out))):w.heap.size≤gb171));have n3_:=Aside0.mk ((by rw [hg];exact (below_size (by repeat (first|(with_reducible first|exact HB.out|apply below_alloc|apply pw_below_drewN|apply below_drew1)|exact HB.out))):w.heap.size≤gb171));clear HB;have HB:=n0_;have BK171:=n1_;have GW171:=n2_;have GE171:=n3_;clear n0_ n1_ n2_ n3_;clear hb hbox hg;have hcz4_0:w3.cell? ⟨gb171,0,none⟩=some (.string a0_0):=(blk_cell BK171.out 0).trans rfl;have hcz4_1:w3.cell? ⟨gb171,1,none⟩=some (.slice A0_1 l0_1.length c0_1):=(blk_cell BK171.out 1).trans rfl;have hcz4_2:w3.cell? ⟨gb171,2,none⟩=some (.int .i64 a0_2):=(blk_cell BK171.out 2).trans rfl;have hcz4_3:w3.cell? ⟨gb171,3,none⟩=some (.slice A0_3 l0_3.length c0_3):=(blk_cell BK171.out 3).trans rfl;have hcz4_4:w3.cell? ⟨gb171,4,none⟩=some (.int .i64 a0_4):=(blk_cell BK171.out 4).trans rfl;have hfz4_0:=blk_frozen BK171.out 0;have hfz4_1:=blk_frozen BK171.out 1;have hfz4_2:=blk_frozen BK171.out 2;have hfz4_3:=blk_frozen BK171.out 3;have hfz4_4:=blk_frozen BK171.out 4)|((with_reducible refine gate_callee (f:=37) rfl ?_);refine goesL_ (some 11) rfl rfl Tryz.func37 (by kernel_rfl) rfl #[.agg #[.string a0_0,.slice A0_1 l0_1.length c0_1]] rfl (by (try simp only [List.map_toArray,List.map_cons,List.map_nil]);first|done|rfl|(simp only [List.length_drop,List.length_take];rfl)) ?_;(with_reducible refine (syntax_Atom_Vars.calls k a0_0 _ _ l0_1 t172 _ ?side1 ?side2 A2.out).mono ?_);(case side1=>repeat (first|exact (Kd.C_below HR0_1.out HB.out)|(with_reducible refine Kd.C_alloc ?_ _)|(with_reducible refine Kd.C_drewN ?_ _)|(with_reducible refine Kd.C_drew ?_)));(case side2=>exact HC0_1.out);rintro e w5 ⟨v173,rfl,ho0,hb⟩;refine ⟨_,rfl,?_⟩;have n0_:=Aside0.mk (Kd.R_lower ho0 (below_size (by repeat (first|(with_reducible first|exact HB.out|apply below_alloc|apply pw_below_drewN|apply below_drew1|refine below_set ?_ GE171.out)|exact HB.out))));have n1_:=Aside0.mk (blk_below (g:=gb171) (o:= .cells #[.string a0_0,.slice A0_1 l0_1.length c0_1,.int .i64 a0_2,.slice A0_3 l0_3.length c0_3,.int .i64 a0_4] 37 (0,0)) (by (with_reducible repeat (first|refine blk_drewN ?_ _|refine blk_drew ?_|refine blk_alloc ?_ _));exact BK171.out) hb);have n2_:=Aside0.mk (below_step (by repeat (first|(with_reducible first|exact HB.out|apply below_alloc|apply pw_below_drewN|apply below_drew1|refine below_set ?_ GE171.out)|exact HB.out)) hb);clear BK171;clear HB;have HO174:=n0_;have BK171:=n1_;have HB:=n2_;clear n0_ n1_ n2_;(try clear hb);(try clear hb2);(try clear hk);(try clear hi);(try clear ho0);have hcz6_0:w5.cell? ⟨gb171,0,none⟩=some (.string a0_0):=(blk_cell BK171.out 0).trans rfl;have hcz6_1:w5.cell? ⟨gb171,1,none⟩=some (.slice A0_1 l0_1.length c0_1):=(blk_cell BK171.out 1).trans rfl;have hcz6_2:w5.cell? ⟨gb171,2,none⟩=some (.int .i64 a0_2):=(blk_cell BK171.out 2).trans rfl;have hcz6_3:w5.cell? ⟨gb171,3,none⟩=some (.slice A0_3 l0_3.length c0_3):=(blk_cell BK171.out 3).trans rfl;have hcz6_4:w5.cell? ⟨gb171,4,none⟩=some (.int .i64 a0_4):=(blk_cell BK171.out 4).trans rfl;have hfz6_0:=blk_frozen BK171.out 0;have hfz6_1:=blk_frozen BK171.out 1;have hfz6_2:=blk_frozen BK171.out 2;have hfz6_3:=blk_frozen BK171.out 3;have hfz6_4:=blk_frozen BK171.out 4))
  go_loopg [3,15] k (fun kq v3 v15 w'=>∃(x3_1:List ByteArray) (x15_1:Int),v15= .int .i64 x15_1∧Aside0 (syntax_Rule_Vars.l0 kq x3_1 l0_3 (l0_3.length:Int) x15_1=some r)∧Aside0 (kq≤k)∧Aside0 (Kd.R Kd.string 9 w' w.heap.size (fun _=>True) v3 x3_1)∧Aside0 (w'.heap[gb171]? =some (.cells #[.string a0_0,(.slice A0_1 l0_1.length c0_1),.int .i64 a0_2,(.slice A0_3 l0_3.length c0_3),.int .i64 a0_4] 37 (0,0)))∧Aside0 (Below w.heap.size w w'))
  case atStart=>exact ⟨(t172),(0),(by first|rfl|(simp;done)|(simp [*];done)),H',⟨Nat.le_refl _⟩,⟨by (with_reducible repeat (first|apply Kd.R_alloc|apply Kd.R_drewN|apply Kd.R_drew));exact HO174.out⟩,⟨by (with_reducible repeat (first|refine blk_drewN ?_ _|refine blk_drew ?_|refine blk_alloc ?_ _));exact BK171.out⟩,⟨by repeat (first|(with_reducible first|exact HB.out|apply below_alloc|apply pw_below_drewN|apply below_drew1|refine below_set ?_ GE171.out)|exact HB.out)⟩⟩
  case round=>
    clear H'
    try clear p2
    try clear c3
    try clear c4
    try clear hcz4_0
    try clear hcz4_1
    try clear hcz4_2
    try clear hcz4_3
    try clear hcz4_4
    try clear hcz6_0
    try clear hcz6_1
    try clear hcz6_2
    try clear hcz6_3
    try clear hcz6_4
    try clear hfz4_0
    try clear hfz4_1
    try clear hfz4_2
    try clear hfz4_3
    try clear hfz4_4
    try clear hfz6_0
    try clear hfz6_1
    try clear hfz6_2
    try clear hfz6_3
    try clear hfz6_4
    obtain ⟨x3_1,x15_1,rfl,HA,HK1,HO_3,BK171,HB⟩:=hrel
    cases gk with
    |zero=>exact absurd HA.out (by simp [syntax_Rule_Vars.l0])
    |succ k1=>
      have H:=HA.out
      clear HA
      simp only [syntax_Rule_Vars.l0] at H
      by_cases c7:x15_1<(l0_3.length:Int)
      · rw [if_pos c7] at H
        have c7b0:decide (x15_1<(l0_3.length:Int))=true:=decide_eq_true c7
        clear c7
        by_cases c8:0≤x15_1
        · rw [if_pos c8] at H
          have c8b0:decide (0≤x15_1)=true:=decide_eq_true c8
          clear c8
          by_cases c9:x15_1<(l0_3.length:Int)
          · rw [if_pos c9] at H
            have c9b0:decide (x15_1<(l0_3.length:Int))=true:=decide_eq_true c9
            clear c9
            replace H:=Option.bind_eq_some_iff.mp H
            obtain ⟨t177,A100,H⟩:=H
            replace H:(if x3_1.length+t177.length<8796093022208 then (syntax_Rule_Vars.l0 k1 (x3_1++t177) l0_3 (l0_3.length:Int) (wrap64 (x15_1+1))) else (none))=some r:=H
            have A10:=Aside0.mk A100
            clear A100
            by_cases c11:x3_1.length+t177.length<8796093022208
            · rw [if_pos c11] at H
              have LMc11:=Aside0.mk c11
              clear c11
              obtain ⟨y180,hy180⟩:∃y_:List ByteArray,y_=(x3_1++t177):=⟨_,rfl⟩
              replace H:(syntax_Rule_Vars.l0 k1 y180 l0_3 (l0_3.length:Int) (wrap64 (x15_1+1)))=some r:=by first|(rw [hy180];with_reducible exact H)|(have H2_:=(Option.bind_some _ _).symm.trans H;rw [hy180];with_reducible exact H2_)|(have H2_:=(Option.bind_some _ _).symm.trans H;with_reducible exact H2_)|with_reducible exact H|(rw [hy180];exact H)|exact H
              have Ny180:=Aside0.mk hy180
              clear hy180
              have H':=Aside0.mk H
              clear H
              have p175:0≤(x15_1:Int):=of_decide_eq_true (by first|(with_reducible assumption)|assumption)
              have q175:x15_1<(l0_3.length:Int):=of_decide_eq_true (by first|(with_reducible assumption)|assumption)
              obtain ⟨ad175,A175_2,c175_2,A175_15,c175_15,e175,hx175_0,hx175_1,hx175_2,hx175_3,hx175_4,hx175_5,hx175_6,hx175_7,hx175_8,hx175_9,hx175_10,hx175_11,hx175_12,hx175_13,hx175_14,hx175_15,hl175_2,hi175_2,hl175_15,hi175_15⟩:=at_T106 HR0_3.out x15_1 p175 q175
              cases e175
              replace hx175_0:=(HB.out.cell (World.block_lt_of_cell? w _ hx175_0)).trans hx175_0
              replace hx175_1:=(HB.out.cell (World.block_lt_of_cell? w _ hx175_1)).trans hx175_1
              replace hx175_2:=(HB.out.cell (World.block_lt_of_cell? w _ hx175_2)).trans hx175_2
              replace hx175_3:=(HB.out.cell (World.block_lt_of_cell? w _ hx175_3)).trans hx175_3
              replace hx175_4:=(HB.out.cell (World.block_lt_of_cell? w _ hx175_4)).trans hx175_4
              replace hx175_5:=(HB.out.cell (World.block_lt_of_cell? w _ hx175_5)).trans hx175_5
              replace hx175_6:=(HB.out.cell (World.block_lt_of_cell? w _ hx175_6)).trans hx175_6
              replace hx175_7:=(HB.out.cell (World.block_lt_of_cell? w _ hx175_7)).trans hx175_7
              replace hx175_8:=(HB.out.cell (World.block_lt_of_cell? w _ hx175_8)).trans hx175_8
              replace hx175_9:=(HB.out.cell (World.block_lt_of_cell? w _ hx175_9)).trans hx175_9
              replace hx175_10:=(HB.out.cell (World.block_lt_of_cell? w _ hx175_10)).trans hx175_10
              replace hx175_11:=(HB.out.cell (World.block_lt_of_cell? w _ hx175_11)).trans hx175_11
              replace hx175_12:=(HB.out.cell (World.block_lt_of_cell? w _ hx175_12)).trans hx175_12
              replace hx175_13:=(HB.out.cell (World.block_lt_of_cell? w _ hx175_13)).trans hx175_13
              replace hx175_14:=(HB.out.cell (World.block_lt_of_cell? w _ hx175_14)).trans hx175_14
              replace hx175_15:=(HB.out.cell (World.block_lt_of_cell? w _ hx175_15)).trans hx175_15
              have HR175_2:=Aside0.mk hi175_2
              have HC175_2:=Aside0.mk hl175_2
              clear hi175_2 hl175_2
              have HR175_15:=Aside0.mk hi175_15
              have HC175_15:=Aside0.mk hl175_15
              clear hi175_15 hl175_15
              replace p175:=eq_true p175
              replace q175:=eq_true q175
              go_wp2_with (first|((with_reducible refine gate_dst (N:=5) rfl ?_);refine box_event ?hg (N:=5) ?hd (cs:= #[.int .i64 0,.string (⟨#[]⟩:ByteArray),.slice none 0 0,.int .i64 0,.int .i64 0,.string (⟨#[]⟩:ByteArray),.int .i64 0,.int .i64 0,.string (⟨#[]⟩:ByteArray),.int .i64 0,.string (⟨#[]⟩:ByteArray),.int .i64 0,.string (⟨#[]⟩:ByteArray),.int .i64 0,.int .i64 0,.slice none 0 0]) (t:=106) ?hr ?_;(case hd=>rfl);(case hg=>rfl);(case hr=>first|(go_simp;done)|(go_simp;rfl));intro gb176 hg w12 hbox hb;have n0_:=Aside0.mk (Kd.R_below (by (with_reducible repeat (first|apply Kd.R_alloc|apply Kd.R_drewN|apply Kd.R_drew));exact HO_3.out) hb);have n1_:=Aside0.mk (blk_below (g:=gb171) (o:= .cells #[.string a0_0,.slice A0_1 l0_1.length c0_1,.int .i64 a0_2,.slice (some ad175) l0_3.length c0_3,.int .i64 a0_4] 37 (0,0)) (by (with_reducible repeat (first|refine blk_drewN ?_ _|refine blk_drew ?_|refine blk_alloc ?_ _));exact BK171.out) hb);have n2_:=Aside0.mk (below_step (by repeat (first|(with_reducible first|exact HB.out|apply below_alloc|apply pw_below_drewN|apply below_drew1|refine below_set ?_ GE171.out)|exact HB.out)) hb);have n3_:=Aside0.mk (hbox);have n4_:=Aside0.mk ((by rw [hg];exact (below_size (by repeat (first|(with_reducible first|exact HB.out|apply below_alloc|apply pw_below_drewN|apply below_drew1|refine below_set ?_ GE171.out)|exact HB.out))):w.heap.size≤gb176));have n5_:=Aside0.mk ((by rw [hg];exact (below_size (by repeat (first|(with_reducible first|exact HB.out|apply below_alloc|apply pw_below_drewN|apply below_drew1|refine below_set ?_ GE171.out)|exact HB.out))):w.heap.size≤gb176));have n6_:=Aside0.mk ((by rw [hg];exact Nat.ne_of_lt (blk_lt (g:=gb171) (o:= .cells #[.string a0_0,.slice A0_1 l0_1.length c0_1,.int .i64 a0_2,.slice (some ad175) l0_3.length c0_3,.int .i64 a0_4] 37 (0,0)) (by (with_reducible repeat (first|refine blk_drewN ?_ _|refine blk_drew ?_|refine blk_alloc ?_ _));exact BK171.out)):gb171≠gb176));have n7_:=Aside0.mk ((by rw [hg];exact Nat.ne_of_gt (blk_lt (g:=gb171) (o:= .cells #[.string a0_0,.slice A0_1 l0_1.length c0_1,.int .i64 a0_2,.slice (some ad175) l0_3.length c0_3,.int .i64 a0_4] 37 (0,0)) (by (with_reducible repeat (first|refine blk_drewN ?_ _|refine blk_drew ?_|refine blk_alloc ?_ _));exact BK171.out)):gb176≠gb171));clear HO_3;clear BK171;clear HB;have HO_3:=n0_;have BK171:=n1_;have HB:=n2_;have BK176:=n3_;have GW176:=n4_;have GE176:=n5_;have NB171_176:=n6_;have NB176_171:=n7_;clear n0_ n1_ n2_ n3_ n4_ n5_ n6_ n7_;clear hb hbox hg;have hnb13:=NB176_171.out;have hnc13:=NB171_176.out;have hcz14_0:w12.cell? ⟨gb176,0,none⟩=some (.int .i64 0):=(blk_cell BK176.out 0).trans rfl;have hcz14_1:w12.cell? ⟨gb176,1,none⟩=some (.string (⟨#[]⟩:ByteArray)):=(blk_cell BK176.out 1).trans rfl;have hcz14_2:w12.cell? ⟨gb176,2,none⟩=some (.slice none 0 0):=(blk_cell BK176.out 2).trans rfl;have hcz14_3:w12.cell? ⟨gb176,3,none⟩=some (.int .i64 0):=(blk_cell BK176.out 3).trans rfl;have hcz14_4:w12.cell? ⟨gb176,4,none⟩=some (.int .i64 0):=(blk_cell BK176.out 4).trans rfl;have hcz14_5:w12.cell? ⟨gb176,5,none⟩=some (.string (⟨#[]⟩:ByteArray)):=(blk_cell BK176.out 5).trans rfl;have hcz14_6:w12.cell? ⟨gb176,6,none⟩=some (.int .i64 0):=(blk_cell BK176.out 6).trans rfl;have hcz14_7:w12.cell? ⟨gb176,7,none⟩=some (.int .i64 0):=(blk_cell BK176.out 7).trans rfl;have hcz14_8:w12.cell? ⟨gb176,8,none⟩=some (.string (⟨#[]⟩:ByteArray)):=(blk_cell BK176.out 8).trans rfl;have hcz14_9:w12.cell? ⟨gb176,9,none⟩=some (.int .i64 0):=(blk_cell BK176.out 9).trans rfl;have hcz14_10:w12.cell? ⟨gb176,10,none⟩=some (.string (⟨#[]⟩:ByteArray)):=(blk_cell BK176.out 10).trans rfl;have hcz14_11:w12.cell? ⟨gb176,11,none⟩=some (.int .i64 0):=(blk_cell BK176.out 11).trans rfl;have hcz14_12:w12.cell? ⟨gb176,12,none⟩=some (.string (⟨#[]⟩:ByteArray)):=(blk_cell BK176.out 12).trans rfl;have hcz14_13:w12.cell? ⟨gb176,13,none⟩=some (.int .i64 0):=(blk_cell BK176.out 13).trans rfl;have hcz14_14:w12.cell? ⟨gb176,14,none⟩=some (.int .i64 0):=(blk_cell BK176.out 14).trans rfl;have hcz14_15:w12.cell? ⟨gb176,15,none⟩=some (.slice none 0 0):=(blk_cell BK176.out 15).trans rfl;have hfz14_0:=blk_frozen BK176.out 0;have hfz14_1:=blk_frozen BK176.out 1;have hfz14_2:=blk_frozen BK176.out 2;have hfz14_3:=blk_frozen BK176.out 3;have hfz14_4:=blk_frozen BK176.out 4;have hfz14_5:=blk_frozen BK176.out 5;have hfz14_6:=blk_frozen BK176.out 6;have hfz14_7:=blk_frozen BK176.out 7;have hfz14_8:=blk_frozen BK176.out 8;have hfz14_9:=blk_frozen BK176.out 9;have hfz14_10:=blk_frozen BK176.out 10;have hfz14_11:=blk_frozen BK176.out 11;have hfz14_12:=blk_frozen BK176.out 12;have hfz14_13:=blk_frozen BK176.out 13;have hfz14_14:=blk_frozen BK176.out 14;have hfz14_15:=blk_frozen BK176.out 15)|((with_reducible refine gate_callee (f:=36) rfl ?_);refine goesL_ (some 21) rfl rfl Tryz.func36 (by kernel_rfl) rfl #[.agg #[.int .i64 ((rd_T106 l0_3 x15_1).f0),.string ((rd_T106 l0_3 x15_1).f1.f0),.slice A175_2 ((rd_T106 l0_3 x15_1).f1.f1).length c175_2,.int .i64 ((rd_T106 l0_3 x15_1).f2),.int .i64 ((rd_T106 l0_3 x15_1).f3.f0),.string ((rd_T106 l0_3 x15_1).f3.f1),.int .i64 ((rd_T106 l0_3 x15_1).f3.f2),.int .i64 ((rd_T106 l0_3 x15_1).f4.f0),.string ((rd_T106 l0_3 x15_1).f4.f1),.int .i64 ((rd_T106 l0_3 x15_1).f4.f2),.string ((rd_T106 l0_3 x15_1).f5),.int .i64 ((rd_T106 l0_3 x15_1).f6.f0.f0),.string ((rd_T106 l0_3 x15_1).f6.f0.f1),.int .i64 ((rd_T106 l0_3 x15_1).f6.f0.f2),.int .i64 ((rd_T106 l0_3 x15_1).f6.f1),.slice A175_15 ((rd_T106 l0_3 x15_1).f6.f2).length c175_15]] rfl (by (try simp only [List.map_toArray,List.map_cons,List.map_nil]);first|done|rfl|(simp only [List.length_drop,List.length_take];rfl)) ?_;(with_reducible refine (syntax_Part_Vars.calls k1 ((rd_T106 l0_3 x15_1).f0) ((rd_T106 l0_3 x15_1).f1.f0) _ _ ((rd_T106 l0_3 x15_1).f1.f1) ((rd_T106 l0_3 x15_1).f2) ((rd_T106 l0_3 x15_1).f3.f0) ((rd_T106 l0_3 x15_1).f3.f1) ((rd_T106 l0_3 x15_1).f3.f2) ((rd_T106 l0_3 x15_1).f4.f0) ((rd_T106 l0_3 x15_1).f4.f1) ((rd_T106 l0_3 x15_1).f4.f2) ((rd_T106 l0_3 x15_1).f5) ((rd_T106 l0_3 x15_1).f6.f0.f0) ((rd_T106 l0_3 x15_1).f6.f0.f1) ((rd_T106 l0_3 x15_1).f6.f0.f2) ((rd_T106 l0_3 x15_1).f6.f1) _ _ ((rd_T106 l0_3 x15_1).f6.f2) t177 _ ?side1 ?side2 ?side3 ?side4 A10.out).mono ?_);(case side1=>exact Kd.C_below HR175_2.out (by repeat (first|(with_reducible first|exact HB.out|apply below_alloc|apply pw_below_drewN|apply below_drew1|refine below_set ?_ GE171.out|refine below_set ?_ GE176.out)|exact HB.out)));(case side2=>exact HC175_2.out);(case side3=>exact Kd.C_below HR175_15.out (by repeat (first|(with_reducible first|exact HB.out|apply below_alloc|apply pw_below_drewN|apply below_drew1|refine below_set ?_ GE171.out|refine below_set ?_ GE176.out)|exact HB.out)));(case side4=>exact HC175_15.out);rintro e w15 ⟨v178,rfl,ho0,hb⟩;refine ⟨_,rfl,?_⟩;have n0_:=Aside0.mk (Kd.R_elder' (by (with_reducible repeat (first|apply Kd.R_alloc|apply Kd.R_drewN|apply Kd.R_drew));exact (Kd.R_mono (Kd.R_far (p:=⟨gb176,15,none⟩) (Kd.R_far (p:=⟨gb176,14,none⟩) (Kd.R_far (p:=⟨gb176,13,none⟩) (Kd.R_far (p:=⟨gb176,12,none⟩) (Kd.R_far (p:=⟨gb176,11,none⟩) (Kd.R_far (p:=⟨gb176,10,none⟩) (Kd.R_far (p:=⟨gb176,9,none⟩) (Kd.R_far (p:=⟨gb176,8,none⟩) (Kd.R_far (p:=⟨gb176,7,none⟩) (Kd.R_far (p:=⟨gb176,6,none⟩) (Kd.R_far (p:=⟨gb176,5,none⟩) (Kd.R_far (p:=⟨gb176,4,none⟩) (Kd.R_far (p:=⟨gb176,3,none⟩) (Kd.R_far (p:=⟨gb176,2,none⟩) (Kd.R_far (p:=⟨gb176,1,none⟩) (Kd.R_far (p:=⟨gb176,0,none⟩) (Kd.R_types HO_3.out BK176.out (by decide)) (fun _ hk=>hk.2) (.int .i64 ((rd_T106 l0_3 x15_1).f0))) (fun _ hk=>hk.2) (.string ((rd_T106 l0_3 x15_1).f1.f0))) (fun _ hk=>hk.2) (.slice A175_2 ((rd_T106 l0_3 x15_1).f1.f1).length c175_2)) (fun _ hk=>hk.2) (.int .i64 ((rd_T106 l0_3 x15_1).f2))) (fun _ hk=>hk.2) (.int .i64 ((rd_T106 l0_3 x15_1).f3.f0))) (fun _ hk=>hk.2) (.string ((rd_T106 l0_3 x15_1).f3.f1))) (fun _ hk=>hk.2) (.int .i64 ((rd_T106 l0_3 x15_1).f3.f2))) (fun _ hk=>hk.2) (.int .i64 ((rd_T106 l0_3 x15_1).f4.f0))) (fun _ hk=>hk.2) (.string ((rd_T106 l0_3 x15_1).f4.f1))) (fun _ hk=>hk.2) (.int .i64 ((rd_T106 l0_3 x15_1).f4.f2))) (fun _ hk=>hk.2) (.string ((rd_T106 l0_3 x15_1).f5))) (fun _ hk=>hk.2) (.int .i64 ((rd_T106 l0_3 x15_1).f6.f0.f0))) (fun _ hk=>hk.2) (.string ((rd_T106 l0_3 x15_1).f6.f0.f1))) (fun _ hk=>hk.2) (.int .i64 ((rd_T106 l0_3 x15_1).f6.f0.f2))) (fun _ hk=>hk.2) (.int .i64 ((rd_T106 l0_3 x15_1).f6.f1))) (fun _ hk=>hk.2) (.slice A175_15 ((rd_T106 l0_3 x15_1).f6.f2).length c175_15)) (fun _ h_=>h_.1))) (Kd.R_base ho0) hb);have n1_:=Aside0.mk (Kd.R_lower (Kd.R_new' ho0 (Kd.R_lt (by (with_reducible repeat (first|apply Kd.R_alloc|apply Kd.R_drewN|apply Kd.R_drew));exact (Kd.R_mono (Kd.R_far (p:=⟨gb176,15,none⟩) (Kd.R_far (p:=⟨gb176,14,none⟩) (Kd.R_far (p:=⟨gb176,13,none⟩) (Kd.R_far (p:=⟨gb176,12,none⟩) (Kd.R_far (p:=⟨gb176,11,none⟩) (Kd.R_far (p:=⟨gb176,10,none⟩) (Kd.R_far (p:=⟨gb176,9,none⟩) (Kd.R_far (p:=⟨gb176,8,none⟩) (Kd.R_far (p:=⟨gb176,7,none⟩) (Kd.R_far (p:=⟨gb176,6,none⟩) (Kd.R_far (p:=⟨gb176,5,none⟩) (Kd.R_far (p:=⟨gb176,4,none⟩) (Kd.R_far (p:=⟨gb176,3,none⟩) (Kd.R_far (p:=⟨gb176,2,none⟩) (Kd.R_far (p:=⟨gb176,1,none⟩) (Kd.R_far (p:=⟨gb176,0,none⟩) (Kd.R_types HO_3.out BK176.out (by decide)) (fun _ hk=>hk.2) (.int .i64 ((rd_T106 l0_3 x15_1).f0))) (fun _ hk=>hk.2) (.string ((rd_T106 l0_3 x15_1).f1.f0))) (fun _ hk=>hk.2) (.slice A175_2 ((rd_T106 l0_3 x15_1).f1.f1).length c175_2)) (fun _ hk=>hk.2) (.int .i64 ((rd_T106 l0_3 x15_1).f2))) (fun _ hk=>hk.2) (.int .i64 ((rd_T106 l0_3 x15_1).f3.f0))) (fun _ hk=>hk.2) (.string ((rd_T106 l0_3 x15_1).f3.f1))) (fun _ hk=>hk.2) (.int .i64 ((rd_T106 l0_3 x15_1).f3.f2))) (fun _ hk=>hk.2) (.int .i64 ((rd_T106 l0_3 x15_1).f4.f0))) (fun _ hk=>hk.2) (.string ((rd_T106 l0_3 x15_1).f4.f1))) (fun _ hk=>hk.2) (.int .i64 ((rd_T106 l0_3 x15_1).f4.f2))) (fun _ hk=>hk.2) (.string ((rd_T106 l0_3 x15_1).f5))) (fun _ hk=>hk.2) (.int .i64 ((rd_T106 l0_3 x15_1).f6.f0.f0))) (fun _ hk=>hk.2) (.string ((rd_T106 l0_3 x15_1).f6.f0.f1))) (fun _ hk=>hk.2) (.int .i64 ((rd_T106 l0_3 x15_1).f6.f0.f2))) (fun _ hk=>hk.2) (.int .i64 ((rd_T106 l0_3 x15_1).f6.f1))) (fun _ hk=>hk.2) (.slice A175_15 ((rd_T106 l0_3 x15_1).f6.f2).length c175_15)) (fun _ h_=>h_.1))))) (below_size (by repeat (first|(with_reducible first|exact HB.out|apply below_alloc|apply pw_below_drewN|apply below_drew1|refine below_set ?_ GE171.out|refine below_set ?_ GE176.out)|exact HB.out))));have n2_:=Aside0.mk (blk_below (g:=gb171) (o:= .cells #[.string a0_0,.slice A0_1 l0_1.length c0_1,.int .i64 a0_2,.slice (some ad175) l0_3.length c0_3,.int .i64 a0_4] 37 (0,0)) (by (with_reducible repeat (first|refine blk_drewN ?_ _|refine blk_drew ?_|refine blk_alloc ?_ _));refine blk_far ?_ NB171_176.out _;(with_reducible repeat (first|refine blk_drewN ?_ _|refine blk_drew ?_|refine blk_alloc ?_ _));refine blk_far ?_ NB171_176.out _;(with_reducible repeat (first|refine blk_drewN ?_ _|refine blk_drew ?_|refine blk_alloc ?_ _));refine blk_far ?_ NB171_176.out _;(with_reducible repeat (first|refine blk_drewN ?_ _|refine blk_drew ?_|refine blk_alloc ?_ _));refine blk_far ?_ NB171_176.out _;(with_reducible repeat (first|refine blk_drewN ?_ _|refine blk_drew ?_|refine blk_alloc ?_ _));refine blk_far ?_ NB171_176.out _;(with_reducible repeat (first|refine blk_drewN ?_ _|refine blk_drew ?_|refine blk_alloc ?_ _));refine blk_far ?_ NB171_176.out _;(with_reducible repeat (first|refine blk_drewN ?_ _|refine blk_drew ?_|refine blk_alloc ?_ _));refine blk_far ?_ NB171_176.out _;(with_reducible repeat (first|refine blk_drewN ?_ _|refine blk_drew ?_|refine blk_alloc ?_ _));refine blk_far ?_ NB171_176.out _;(with_reducible repeat (first|refine blk_drewN ?_ _|refine blk_drew ?_|refine blk_alloc ?_ _));refine blk_far ?_ NB171_176.out _;(with_reducible repeat (first|refine blk_drewN ?_ _|refine blk_drew ?_|refine blk_alloc ?_ _));refine blk_far ?_ NB171_176.out _;(with_reducible repeat (first|refine blk_drewN ?_ _|refine blk_drew ?_|refine blk_alloc ?_ _));refine blk_far ?_ NB171_176.out _;(with_reducible repeat (first|refine blk_drewN ?_ _|refine blk_drew ?_|refine blk_alloc ?_ _));refine blk_far ?_ NB171_176.out _;(with_reducible repeat (first|refine blk_drewN ?_ _|refine blk_drew ?_|refine blk_alloc ?_ _));refine blk_far ?_ NB171_176.out _;(with_reducible repeat (first|refine blk_drewN ?_ _|refine blk_drew ?_|refine blk_alloc ?_ _));refine blk_far ?_ NB171_176.out _;(with_reducible repeat (first|refine blk_drewN ?_ _|refine blk_drew ?_|refine blk_alloc ?_ _));refine blk_far ?_ NB171_176.out _;(with_reducible repeat (first|refine blk_drewN ?_ _|refine blk_drew ?_|refine blk_alloc ?_ _));refine blk_far ?_ NB171_176.out _;(with_reducible repeat (first|refine blk_drewN ?_ _|refine blk_drew ?_|refine blk_alloc ?_ _));exact BK171.out) hb);have n3_:=Aside0.mk (blk_below (g:=gb176) (o:= .cells #[.int .i64 ((rd_T106 l0_3 x15_1).f0),.string ((rd_T106 l0_3 x15_1).f1.f0),.slice A175_2 ((rd_T106 l0_3 x15_1).f1.f1).length c175_2,.int .i64 ((rd_T106 l0_3 x15_1).f2),.int .i64 ((rd_T106 l0_3 x15_1).f3.f0),.string ((rd_T106 l0_3 x15_1).f3.f1),.int .i64 ((rd_T106 l0_3 x15_1).f3.f2),.int .i64 ((rd_T106 l0_3 x15_1).f4.f0),.string ((rd_T106 l0_3 x15_1).f4.f1),.int .i64 ((rd_T106 l0_3 x15_1).f4.f2),.string ((rd_T106 l0_3 x15_1).f5),.int .i64 ((rd_T106 l0_3 x15_1).f6.f0.f0),.string ((rd_T106 l0_3 x15_1).f6.f0.f1),.int .i64 ((rd_T106 l0_3 x15_1).f6.f0.f2),.int .i64 ((rd_T106 l0_3 x15_1).f6.f1),.slice A175_15 ((rd_T106 l0_3 x15_1).f6.f2).length c175_15] 106 (0,0)) (by (with_reducible repeat (first|refine blk_drewN ?_ _|refine blk_drew ?_|refine blk_alloc ?_ _));refine blk_put (cs:= #[.int .i64 ((rd_T106 l0_3 x15_1).f0),.string ((rd_T106 l0_3 x15_1).f1.f0),.slice A175_2 ((rd_T106 l0_3 x15_1).f1.f1).length c175_2,.int .i64 ((rd_T106 l0_3 x15_1).f2),.int .i64 ((rd_T106 l0_3 x15_1).f3.f0),.string ((rd_T106 l0_3 x15_1).f3.f1),.int .i64 ((rd_T106 l0_3 x15_1).f3.f2),.int .i64 ((rd_T106 l0_3 x15_1).f4.f0),.string ((rd_T106 l0_3 x15_1).f4.f1),.int .i64 ((rd_T106 l0_3 x15_1).f4.f2),.string ((rd_T106 l0_3 x15_1).f5),.int .i64 ((rd_T106 l0_3 x15_1).f6.f0.f0),.string ((rd_T106 l0_3 x15_1).f6.f0.f1),.int .i64 ((rd_T106 l0_3 x15_1).f6.f0.f2),.int .i64 ((rd_T106 l0_3 x15_1).f6.f1),.slice none 0 0]) ?_ 15 _ rfl;(with_reducible repeat (first|refine blk_drewN ?_ _|refine blk_drew ?_|refine blk_alloc ?_ _));refine blk_put (cs:= #[.int .i64 ((rd_T106 l0_3 x15_1).f0),.string ((rd_T106 l0_3 x15_1).f1.f0),.slice A175_2 ((rd_T106 l0_3 x15_1).f1.f1).length c175_2,.int .i64 ((rd_T106 l0_3 x15_1).f2),.int .i64 ((rd_T106 l0_3 x15_1).f3.f0),.string ((rd_T106 l0_3 x15_1).f3.f1),.int .i64 ((rd_T106 l0_3 x15_1).f3.f2),.int .i64 ((rd_T106 l0_3 x15_1).f4.f0),.string ((rd_T106 l0_3 x15_1).f4.f1),.int .i64 ((rd_T106 l0_3 x15_1).f4.f2),.string ((rd_T106 l0_3 x15_1).f5),.int .i64 ((rd_T106 l0_3 x15_1).f6.f0.f0),.string ((rd_T106 l0_3 x15_1).f6.f0.f1),.int .i64 ((rd_T106 l0_3 x15_1).f6.f0.f2),.int .i64 0,.slice none 0 0]) ?_ 14 _ rfl;(with_reducible repeat (first|refine blk_drewN ?_ _|refine blk_drew ?_|refine blk_alloc ?_ _));refine blk_put (cs:= #[.int .i64 ((rd_T106 l0_3 x15_1).f0),.string ((rd_T106 l0_3 x15_1).f1.f0),.slice A175_2 ((rd_T106 l0_3 x15_1).f1.f1).length c175_2,.int .i64 ((rd_T106 l0_3 x15_1).f2),.int .i64 ((rd_T106 l0_3 x15_1).f3.f0),.string ((rd_T106 l0_3 x15_1).f3.f1),.int .i64 ((rd_T106 l0_3 x15_1).f3.f2),.int .i64 ((rd_T106 l0_3 x15_1).f4.f0),.string ((rd_T106 l0_3 x15_1).f4.f1),.int .i64 ((rd_T106 l0_3 x15_1).f4.f2),.string ((rd_T106 l0_3 x15_1).f5),.int .i64 ((rd_T106 l0_3 x15_1).f6.f0.f0),.string ((rd_T106 l0_3 x15_1).f6.f0.f1),.int .i64 0,.int .i64 0,.slice none 0 0]) ?_ 13 _ rfl;(with_reducible repeat (first|refine blk_drewN ?_ _|refine blk_drew ?_|refine blk_alloc ?_ _));refine blk_put (cs:= #[.int .i64 ((rd_T106 l0_3 x15_1).f0),.string ((rd_T106 l0_3 x15_1).f1.f0),.slice A175_2 ((rd_T106 l0_3 x15_1).f1.f1).length c175_2,.int .i64 ((rd_T106 l0_3 x15_1).f2),.int .i64 ((rd_T106 l0_3 x15_1).f3.f0),.string ((rd_T106 l0_3 x15_1).f3.f1),.int .i64 ((rd_T106 l0_3 x15_1).f3.f2),.int .i64 ((rd_T106 l0_3 x15_1).f4.f0),.string ((rd_T106 l0_3 x15_1).f4.f1),.int .i64 ((rd_T106 l0_3 x15_1).f4.f2),.string ((rd_T106 l0_3 x15_1).f5),.int .i64 ((rd_T106 l0_3 x15_1).f6.f0.f0),.string (⟨#[]⟩:ByteArray),.int .i64 0,.int .i64 0,.slice none 0 0]) ?_ 12 _ rfl;(with_reducible repeat (first|refine blk_drewN ?_ _|refine blk_drew ?_|refine blk_alloc ?_ _));refine blk_put (cs:= #[.int .i64 ((rd_T106 l0_3 x15_1).f0),.string ((rd_T106 l0_3 x15_1).f1.f0),.slice A175_2 ((rd_T106 l0_3 x15_1).f1.f1).length c175_2,.int .i64 ((rd_T106 l0_3 x15_1).f2),.int .i64 ((rd_T106 l0_3 x15_1).f3.f0),.string ((rd_T106 l0_3 x15_1).f3.f1),.int .i64 ((rd_T106 l0_3 x15_1).f3.f2),.int .i64 ((rd_T106 l0_3 x15_1).f4.f0),.string ((rd_T106 l0_3 x15_1).f4.f1),.int .i64 ((rd_T106 l0_3 x15_1).f4.f2),.string ((rd_T106 l0_3 x15_1).f5),.int .i64 0,.string (⟨#[]⟩:ByteArray),.int .i64 0,.int .i64 0,.slice none 0 0]) ?_ 11 _ rfl;(with_reducible repeat (first|refine blk_drewN ?_ _|refine blk_drew ?_|refine blk_alloc ?_ _));refine blk_put (cs:= #[.int .i64 ((rd_T106 l0_3 x15_1).f0),.string ((rd_T106 l0_3 x15_1).f1.f0),.slice A175_2 ((rd_T106 l0_3 x15_1).f1.f1).length c175_2,.int .i64 ((rd_T106 l0_3 x15_1).f2),.int .i64 ((rd_T106 l0_3 x15_1).f3.f0),.string ((rd_T106 l0_3 x15_1).f3.f1),.int .i64 ((rd_T106 l0_3 x15_1).f3.f2),.int .i64 ((rd_T106 l0_3 x15_1).f4.f0),.string ((rd_T106 l0_3 x15_1).f4.f1),.int .i64 ((rd_T106 l0_3 x15_1).f4.f2),.string (⟨#[]⟩:ByteArray),.int .i64 0,.string (⟨#[]⟩:ByteArray),.int .i64 0,.int .i64 0,.slice none 0 0]) ?_ 10 _ rfl;(with_reducible repeat (first|refine blk_drewN ?_ _|refine blk_drew ?_|refine blk_alloc ?_ _));refine blk_put (cs:= #[.int .i64 ((rd_T106 l0_3 x15_1).f0),.string ((rd_T106 l0_3 x15_1).f1.f0),.slice A175_2 ((rd_T106 l0_3 x15_1).f1.f1).length c175_2,.int .i64 ((rd_T106 l0_3 x15_1).f2),.int .i64 ((rd_T106 l0_3 x15_1).f3.f0),.string ((rd_T106 l0_3 x15_1).f3.f1),.int .i64 ((rd_T106 l0_3 x15_1).f3.f2),.int .i64 ((rd_T106 l0_3 x15_1).f4.f0),.string ((rd_T106 l0_3 x15_1).f4.f1),.int .i64 0,.string (⟨#[]⟩:ByteArray),.int .i64 0,.string (⟨#[]⟩:ByteArray),.int .i64 0,.int .i64 0,.slice none 0 0]) ?_ 9 _ rfl;(with_reducible repeat (first|refine blk_drewN ?_ _|refine blk_drew ?_|refine blk_alloc ?_ _));refine blk_put (cs:= #[.int .i64 ((rd_T106 l0_3 x15_1).f0),.string ((rd_T106 l0_3 x15_1).f1.f0),.slice A175_2 ((rd_T106 l0_3 x15_1).f1.f1).length c175_2,.int .i64 ((rd_T106 l0_3 x15_1).f2),.int .i64 ((rd_T106 l0_3 x15_1).f3.f0),.string ((rd_T106 l0_3 x15_1).f3.f1),.int .i64 ((rd_T106 l0_3 x15_1).f3.f2),.int .i64 ((rd_T106 l0_3 x15_1).f4.f0),.string (⟨#[]⟩:ByteArray),.int .i64 0,.string (⟨#[]⟩:ByteArray),.int .i64 0,.string (⟨#[]⟩:ByteArray),.int .i64 0,.int .i64 0,.slice none 0 0]) ?_ 8 _ rfl;(with_reducible repeat (first|refine blk_drewN ?_ _|refine blk_drew ?_|refine blk_alloc ?_ _));refine blk_put (cs:= #[.int .i64 ((rd_T106 l0_3 x15_1).f0),.string ((rd_T106 l0_3 x15_1).f1.f0),.slice A175_2 ((rd_T106 l0_3 x15_1).f1.f1).length c175_2,.int .i64 ((rd_T106 l0_3 x15_1).f2),.int .i64 ((rd_T106 l0_3 x15_1).f3.f0),.string ((rd_T106 l0_3 x15_1).f3.f1),.int .i64 ((rd_T106 l0_3 x15_1).f3.f2),.int .i64 0,.string (⟨#[]⟩:ByteArray),.int .i64 0,.string (⟨#[]⟩:ByteArray),.int .i64 0,.string (⟨#[]⟩:ByteArray),.int .i64 0,.int .i64 0,.slice none 0 0]) ?_ 7 _ rfl;(with_reducible repeat (first|refine blk_drewN ?_ _|refine blk_drew ?_|refine blk_alloc ?_ _));refine blk_put (cs:= #[.int .i64 ((rd_T106 l0_3 x15_1).f0),.string ((rd_T106 l0_3 x15_1).f1.f0),.slice A175_2 ((rd_T106 l0_3 x15_1).f1.f1).length c175_2,.int .i64 ((rd_T106 l0_3 x15_1).f2),.int .i64 ((rd_T106 l0_3 x15_1).f3.f0),.string ((rd_T106 l0_3 x15_1).f3.f1),.int .i64 0,.int .i64 0,.string (⟨#[]⟩:ByteArray),.int .i64 0,.string (⟨#[]⟩:ByteArray),.int .i64 0,.string (⟨#[]⟩:ByteArray),.int .i64 0,.int .i64 0,.slice none 0 0]) ?_ 6 _ rfl;(with_reducible repeat (first|refine blk_drewN ?_ _|refine blk_drew ?_|refine blk_alloc ?_ _));refine blk_put (cs:= #[.int .i64 ((rd_T106 l0_3 x15_1).f0),.string ((rd_T106 l0_3 x15_1).f1.f0),.slice A175_2 ((rd_T106 l0_3 x15_1).f1.f1).length c175_2,.int .i64 ((rd_T106 l0_3 x15_1).f2),.int .i64 ((rd_T106 l0_3 x15_1).f3.f0),.string (⟨#[]⟩:ByteArray),.int .i64 0,.int .i64 0,.string (⟨#[]⟩:ByteArray),.int .i64 0,.string (⟨#[]⟩:ByteArray),.int .i64 0,.string (⟨#[]⟩:ByteArray),.int .i64 0,.int .i64 0,.slice none 0 0]) ?_ 5 _ rfl;(with_reducible repeat (first|refine blk_drewN ?_ _|refine blk_drew ?_|refine blk_alloc ?_ _));refine blk_put (cs:= #[.int .i64 ((rd_T106 l0_3 x15_1).f0),.string ((rd_T106 l0_3 x15_1).f1.f0),.slice A175_2 ((rd_T106 l0_3 x15_1).f1.f1).length c175_2,.int .i64 ((rd_T106 l0_3 x15_1).f2),.int .i64 0,.string (⟨#[]⟩:ByteArray),.int .i64 0,.int .i64 0,.string (⟨#[]⟩:ByteArray),.int .i64 0,.string (⟨#[]⟩:ByteArray),.int .i64 0,.string (⟨#[]⟩:ByteArray),.int .i64 0,.int .i64 0,.slice none 0 0]) ?_ 4 _ rfl;(with_reducible repeat (first|refine blk_drewN ?_ _|refine blk_drew ?_|refine blk_alloc ?_ _));refine blk_put (cs:= #[.int .i64 ((rd_T106 l0_3 x15_1).f0),.string ((rd_T106 l0_3 x15_1).f1.f0),.slice A175_2 ((rd_T106 l0_3 x15_1).f1.f1).length c175_2,.int .i64 0,.int .i64 0,.string (⟨#[]⟩:ByteArray),.int .i64 0,.int .i64 0,.string (⟨#[]⟩:ByteArray),.int .i64 0,.string (⟨#[]⟩:ByteArray),.int .i64 0,.string (⟨#[]⟩:ByteArray),.int .i64 0,.int .i64 0,.slice none 0 0]) ?_ 3 _ rfl;(with_reducible repeat (first|refine blk_drewN ?_ _|refine blk_drew ?_|refine blk_alloc ?_ _));refine blk_put (cs:= #[.int .i64 ((rd_T106 l0_3 x15_1).f0),.string ((rd_T106 l0_3 x15_1).f1.f0),.slice none 0 0,.int .i64 0,.int .i64 0,.string (⟨#[]⟩:ByteArray),.int .i64 0,.int .i64 0,.string (⟨#[]⟩:ByteArray),.int .i64 0,.string (⟨#[]⟩:ByteArray),.int .i64 0,.string (⟨#[]⟩:ByteArray),.int .i64 0,.int .i64 0,.slice none 0 0]) ?_ 2 _ rfl;(with_reducible repeat (first|refine blk_drewN ?_ _|refine blk_drew ?_|refine blk_alloc ?_ _));refine blk_put (cs:= #[.int .i64 ((rd_T106 l0_3 x15_1).f0),.string (⟨#[]⟩:ByteArray),.slice none 0 0,.int .i64 0,.int .i64 0,.string (⟨#[]⟩:ByteArray),.int .i64 0,.int .i64 0,.string (⟨#[]⟩:ByteArray),.int .i64 0,.string (⟨#[]⟩:ByteArray),.int .i64 0,.string (⟨#[]⟩:ByteArray),.int .i64 0,.int .i64 0,.slice none 0 0]) ?_ 1 _ rfl;(with_reducible repeat (first|refine blk_drewN ?_ _|refine blk_drew ?_|refine blk_alloc ?_ _));refine blk_put (cs:= #[.int .i64 0,.string (⟨#[]⟩:ByteArray),.slice none 0 0,.int .i64 0,.int .i64 0,.string (⟨#[]⟩:ByteArray),.int .i64 0,.int .i64 0,.string (⟨#[]⟩:ByteArray),.int .i64 0,.string (⟨#[]⟩:ByteArray),.int .i64 0,.string (⟨#[]⟩:ByteArray),.int .i64 0,.int .i64 0,.slice none 0 0]) ?_ 0 _ rfl;(with_reducible repeat (first|refine blk_drewN ?_ _|refine blk_drew ?_|refine blk_alloc ?_ _));exact BK176.out) hb);have n4_:=Aside0.mk (below_step (by repeat (first|(with_reducible first|exact HB.out|apply below_alloc|apply pw_below_drewN|apply below_drew1|refine below_set ?_ GE171.out|refine below_set ?_ GE176.out)|exact HB.out)) hb);clear HO_3;clear BK171;clear BK176;clear HB;have HO_3:=n0_;have HO179:=n1_;have BK171:=n2_;have BK176:=n3_;have HB:=n4_;clear n0_ n1_ n2_ n3_ n4_;(try clear hb);(try clear hb2);(try clear hk);(try clear hi);(try clear ho0);obtain ⟨Ao17,co17,eo17⟩:=Kd.R_slice HO179.out;subst eo17)|((with_reducible refine gate_builtin (b:= .append) (xs:= #[.tmp 19,.tmp 21]) rfl ?_);at_builtin;refine Kd.R_append_rows Kd.string (w0:=w) w.heap.size rfl (.tmp 19) (.tmp 21) 74 9 (.string ⟨#[]⟩) 16 rfl Tryz.underlying74 info9 rfl (by decide) (by omega) u3 x3_1 t177 _ _ _ (fun k_=>some k_≠(.slice Ao17 t177.length co17:Value).ownBlock) (fun _=>False) rfl rfl ?aO ?aR (fun _ _ h=>h) (fun _ h=>h.elim) ?aF ?aB ?aS ?aL ?_;(case aR=>repeat (first|exact (Kd.R_reads' HO179.out).2.2|(with_reducible refine Kd.C_alloc ?_ _)|(with_reducible refine Kd.C_drewN ?_ _)|(with_reducible refine Kd.C_drew ?_)));(case aB=>exact (by repeat (first|(with_reducible first|exact HB.out|apply below_alloc|apply pw_below_drewN|apply below_drew1|refine below_set ?_ GE171.out|refine below_set ?_ GE176.out)|exact HB.out)));(case aF=>exact (fun k_ hk=>Kd.fresh' (Kd.R_lt (by (with_reducible repeat (first|apply Kd.R_alloc|apply Kd.R_drewN|apply Kd.R_drew));exact HO179.out)) k_ hk));(case aO=>exact (by (with_reducible repeat (first|apply Kd.R_alloc|apply Kd.R_drewN|apply Kd.R_drew));exact Kd.R_mono HO_3.out (fun _ hk=>hk.2)));(case aS=>exact (below_size (by repeat (first|(with_reducible first|exact HB.out|apply below_alloc|apply pw_below_drewN|apply below_drew1|refine below_set ?_ GE171.out|refine below_set ?_ GE176.out)|exact HB.out))));(case aL=>have:=LMc11.out;omega);intro v181 w16 ho hb hg hat;rw [←Ny180.out] at ho;have n0_:=Aside0.mk (blk_grown (g:=gb171) (o:= .cells #[.string a0_0,.slice A0_1 l0_1.length c0_1,.int .i64 a0_2,.slice (some ad175) l0_3.length c0_3,.int .i64 a0_4] 37 (0,0)) (by (with_reducible repeat (first|refine blk_drewN ?_ _|refine blk_drew ?_|refine blk_alloc ?_ _));exact BK171.out) hg (Kd.R_ne HO_3.out BK171.out (by decide)));have n1_:=Aside0.mk (blk_grown (g:=gb176) (o:= .cells #[.int .i64 ((rd_T106 l0_3 x15_1).f0),.string ((rd_T106 l0_3 x15_1).f1.f0),.slice A175_2 ((rd_T106 l0_3 x15_1).f1.f1).length c175_2,.int .i64 ((rd_T106 l0_3 x15_1).f2),.int .i64 ((rd_T106 l0_3 x15_1).f3.f0),.string ((rd_T106 l0_3 x15_1).f3.f1),.int .i64 ((rd_T106 l0_3 x15_1).f3.f2),.int .i64 ((rd_T106 l0_3 x15_1).f4.f0),.string ((rd_T106 l0_3 x15_1).f4.f1),.int .i64 ((rd_T106 l0_3 x15_1).f4.f2),.string ((rd_T106 l0_3 x15_1).f5),.int .i64 ((rd_T106 l0_3 x15_1).f6.f0.f0),.string ((rd_T106 l0_3 x15_1).f6.f0.f1),.int .i64 ((rd_T106 l0_3 x15_1).f6.f0.f2),.int .i64 ((rd_T106 l0_3 x15_1).f6.f1),.slice A175_15 ((rd_T106 l0_3 x15_1).f6.f2).length c175_15] 106 (0,0)) (by (with_reducible repeat (first|refine blk_drewN ?_ _|refine blk_drew ?_|refine blk_alloc ?_ _));exact BK176.out) hg (Kd.R_ne HO_3.out BK176.out (by decide)));have n2_:=Aside0.mk (Kd.R_after (ok:=(fun _=>True)) (by (with_reducible repeat (first|apply Kd.R_alloc|apply Kd.R_drewN|apply Kd.R_drew));exact HO179.out) hg hat);have n3_:=Aside0.mk (hb);have n4_:=Aside0.mk (ho);clear BK171;clear BK176;clear HO179;clear HB;clear HO_3;have BK171:=n0_;have BK176:=n1_;have HO179:=n2_;have HB:=n3_;have HO182:=n4_;clear n0_ n1_ n2_ n3_ n4_;clear ho hb hg hat))
              go_roundg k1
              case measure=>have:=HK1.out;omega
              case rel=>exact ⟨(y180),(wrap64 (x15_1+1)),(by first|rfl|(simp;done)|(simp [*];done)),H',⟨by have:=HK1.out;omega⟩,⟨by (with_reducible repeat (first|apply Kd.R_alloc|apply Kd.R_drewN|apply Kd.R_drew));exact Kd.R_mono HO182.out (fun _ hk=>trivial)⟩,⟨by (with_reducible repeat (first|refine blk_drewN ?_ _|refine blk_drew ?_|refine blk_alloc ?_ _));exact BK171.out⟩,⟨by repeat (first|(with_reducible first|exact HB.out|apply below_alloc|apply pw_below_drewN|apply below_drew1|refine below_set ?_ GE171.out|refine below_set ?_ GE176.out)|exact HB.out)⟩⟩
            · rw [if_neg c11] at H
              exact absurd H (by simp)
          · rw [if_neg c9] at H
            exact absurd H (by simp)
        · rw [if_neg c8] at H
          exact absurd H (by simp)
      · rw [if_neg c7] at H
        have c7b0:decide (x15_1<(l0_3.length:Int))=false:=decide_eq_false c7
        clear c7
        have H':=Aside0.mk H
        clear H
        obtain ⟨Ao18,co18,eo18⟩:=Kd.R_slice HO_3.out
        subst eo18
        go_wp2
        go_loopg [6,26] k1 (fun kq v6 v26 w'=>∃(x6_2:List ByteArray) (x26_2:Int),v26= .int .i64 x26_2∧Aside0 (syntax_Rule_Vars.l1 kq x6_2 x3_1 (x3_1.length:Int) x26_2=some r)∧Aside0 (kq≤k1)∧Aside0 (Kd.R Kd.string 9 w' w.heap.size (fun k_=>some k_≠((.slice Ao18 x3_1.length co18):Value).ownBlock) v6 x6_2)∧Aside0 (Kd.R Kd.string 9 w' w.heap.size (fun k_=>some k_≠(v6:Value).ownBlock) (.slice Ao18 x3_1.length co18) x3_1)∧Aside0 (w'.heap[gb171]? =some (.cells #[.string a0_0,(.slice A0_1 l0_1.length c0_1),.int .i64 a0_2,(.slice A0_3 l0_3.length c0_3),.int .i64 a0_4] 37 (0,0)))∧Aside0 (Below w.heap.size w w'))
        case atStart=>exact ⟨(([]:List ByteArray)),(0),(by first|rfl|(simp;done)|(simp [*];done)),H',⟨Nat.le_refl _⟩,⟨by first|exact Kd.R_nil _ _ _ _ _|exact Kd.N_nil _ _ _ _ _|exact Kd.V_nil _ _ _ _ _|exact Kd.Q_nil _ _ _ _ _|exact Kd.S_nil _ _ _ _ _⟩,⟨by (with_reducible repeat (first|apply Kd.R_alloc|apply Kd.R_drewN|apply Kd.R_drew));exact Kd.R_mono HO_3.out (fun _ hk=>(by simp [Value.ownBlock]))⟩,⟨by (with_reducible repeat (first|refine blk_drewN ?_ _|refine blk_drew ?_|refine blk_alloc ?_ _));exact BK171.out⟩,⟨by repeat (first|(with_reducible first|exact HB.out|apply below_alloc|apply pw_below_drewN|apply below_drew1|refine below_set ?_ GE171.out)|exact HB.out)⟩⟩
        case round=>
          clear H'
          try clear c1
          try clear p1
          try clear q1
          try clear hx1
          try clear p2
          try clear c3
          try clear c4
          try clear p6
          try clear c7
          try clear c7b0
          try clear c8
          try clear c8b0
          try clear c9
          try clear c9b0
          try clear c11
          try clear c13
          try clear c17
          try clear p17
          try clear q17
          try clear hx17
          try clear hcz14_0
          try clear hcz14_1
          try clear hcz14_10
          try clear hcz14_11
          try clear hcz14_12
          try clear hcz14_13
          try clear hcz14_14
          try clear hcz14_15
          try clear hcz14_2
          try clear hcz14_3
          try clear hcz14_4
          try clear hcz14_5
          try clear hcz14_6
          try clear hcz14_7
          try clear hcz14_8
          try clear hcz14_9
          try clear hcz4_0
          try clear hcz4_1
          try clear hcz4_2
          try clear hcz4_3
          try clear hcz4_4
          try clear hcz6_0
          try clear hcz6_1
          try clear hcz6_2
          try clear hcz6_3
          try clear hcz6_4
          try clear hfz14_0
          try clear hfz14_1
          try clear hfz14_10
          try clear hfz14_11
          try clear hfz14_12
          try clear hfz14_13
          try clear hfz14_14
          try clear hfz14_15
          try clear hfz14_2
          try clear hfz14_3
          try clear hfz14_4
          try clear hfz14_5
          try clear hfz14_6
          try clear hfz14_7
          try clear hfz14_8
          try clear hfz14_9
          try clear hfz4_0
          try clear hfz4_1
          try clear hfz4_2
          try clear hfz4_3
          try clear hfz4_4
          try clear hfz6_0
          try clear hfz6_1
          try clear hfz6_2
          try clear hfz6_3
          try clear hfz6_4
          try clear hx175_0
          try clear hx175_1
          try clear hx175_10
          try clear hx175_11
          try clear hx175_12
          try clear hx175_13
          try clear hx175_14
          try clear hx175_15
          try clear hx175_2
          try clear hx175_3
          try clear hx175_4
          try clear hx175_5
          try clear hx175_6
          try clear hx175_7
          try clear hx175_8
          try clear hx175_9
          try clear p175
          try clear p2
          try clear q175
          obtain ⟨x6_2,x26_2,rfl,HA,HK2,HO_6,HO_24,BK171,HB⟩:=hrel
          cases gk with
          |zero=>exact absurd HA.out (by simp [syntax_Rule_Vars.l1])
          |succ k2=>
            have H:=HA.out
            clear HA
            simp only [syntax_Rule_Vars.l1] at H
            by_cases c19:x26_2<(x3_1.length:Int)
            · rw [if_pos c19] at H
              have c19b0:decide (x26_2<(x3_1.length:Int))=true:=decide_eq_true c19
              clear c19
              by_cases c20:0≤x26_2
              · rw [if_pos c20] at H
                have c20b0:decide (0≤x26_2)=true:=decide_eq_true c20
                clear c20
                by_cases c21:x26_2<(x3_1.length:Int)
                · rw [if_pos c21] at H
                  have c21b0:decide (x26_2<(x3_1.length:Int))=true:=decide_eq_true c21
                  clear c21
                  replace H:=Option.bind_eq_some_iff.mp H
                  obtain ⟨t184,A220,H⟩:=H
                  replace H:(if t184=true then (syntax_Rule_Vars.l1 k2 x6_2 x3_1 (x3_1.length:Int) (wrap64 (x26_2+1))) else (if x6_2.length<8796093022208 then (syntax_Rule_Vars.l1 k2 (x6_2++[rdOf ByteArray.empty x3_1 x26_2]) x3_1 (x3_1.length:Int) (wrap64 (x26_2+1))) else (none)))=some r:=H
                  have A22:=Aside0.mk A220
                  clear A220
                  by_cases c23:t184=true
                  · subst c23
                    have H1:(syntax_Rule_Vars.l1 k2 x6_2 x3_1 (x3_1.length:Int) (wrap64 (x26_2+1)))=some r:=by rw [if_pos rfl] at H;exact H
                    clear H
                    have H:=H1
                    clear H1
                    have H':=Aside0.mk H
                    clear H
                    have p183:0≤(x26_2:Int):=of_decide_eq_true (by first|(with_reducible assumption)|assumption)
                    have q183:x26_2<(x3_1.length:Int):=of_decide_eq_true (by first|(with_reducible assumption)|assumption)
                    obtain ⟨ad183,e183,hx183_0⟩:=Kd.at_string (Kd.R_reads' HO_24.out).2.2 x26_2 p183 q183
                    cases e183
                    replace p183:=eq_true p183
                    replace q183:=eq_true q183
                    obtain ⟨Ao24,co24,eo24⟩:=Kd.R_slice HO_6.out
                    subst eo24
                    go_wp2_with (first|((with_reducible refine gate_callee (f:=81) rfl ?_);refine goesL_ (some 32) rfl rfl Tryz.func81 (by kernel_rfl) rfl #[.slice Ao24 x6_2.length co24,.string (rdOf ByteArray.empty x3_1 x26_2)] rfl (by (try simp only [List.map_toArray,List.map_cons,List.map_nil]);first|done|rfl|(simp only [List.length_drop,List.length_take];rfl)) ?_;(with_reducible refine (slices_Contains_string_string.calls k2 _ _ x6_2 (rdOf ByteArray.empty x3_1 x26_2) true _ ?side1 ?side2 A22.out).mono ?_);(case side1=>repeat (first|exact (Kd.R_reads' HO_6.out).2.2|(with_reducible refine Kd.C_alloc ?_ _)|(with_reducible refine Kd.C_drewN ?_ _)|(with_reducible refine Kd.C_drew ?_)));(case side2=>exact (Kd.R_reads' HO_6.out).2.1);rintro e w' ⟨rfl,⟨nd,rfl⟩⟩;refine ⟨_,rfl,?_⟩))
                    go_roundg k2
                    case measure=>have:=HK1.out;have:=HK2.out;omega
                    case rel=>exact ⟨(x6_2),(wrap64 (x26_2+1)),(by first|rfl|(simp;done)|(simp [*];done)),H',⟨by have:=HK1.out;have:=HK2.out;omega⟩,⟨by (with_reducible repeat (first|apply Kd.R_alloc|apply Kd.R_drewN|apply Kd.R_drew));exact HO_6.out⟩,⟨by (with_reducible repeat (first|apply Kd.R_alloc|apply Kd.R_drewN|apply Kd.R_drew));exact HO_24.out⟩,⟨by (with_reducible repeat (first|refine blk_drewN ?_ _|refine blk_drew ?_|refine blk_alloc ?_ _));exact BK171.out⟩,⟨by repeat (first|(with_reducible first|exact HB.out|apply below_alloc|apply pw_below_drewN|apply below_drew1|refine below_set ?_ GE171.out)|exact HB.out)⟩⟩
                  · replace c23 := Bool.eq_false_iff.mpr c23
                    subst c23
                    have H1:(if x6_2.length<8796093022208 then (syntax_Rule_Vars.l1 k2 (x6_2++[rdOf ByteArray.empty x3_1 x26_2]) x3_1 (x3_1.length:Int) (wrap64 (x26_2+1))) else (none))=some r:=by rw [if_neg (show ¬(false=true) by decide)] at H;exact H
                    clear H
                    have H:=H1
                    clear H1
                    by_cases c25:x6_2.length<8796093022208
                    · rw [if_pos c25] at H
                      have LMc25:=Aside0.mk c25
                      clear c25
                      obtain ⟨y185,hy185⟩:∃y_:List ByteArray,y_=(x6_2++[rdOf ByteArray.empty x3_1 x26_2]):=⟨_,rfl⟩
                      replace H:(syntax_Rule_Vars.l1 k2 y185 x3_1 (x3_1.length:Int) (wrap64 (x26_2+1)))=some r:=by first|(rw [hy185];with_reducible exact H)|(have H2_:=(Option.bind_some _ _).symm.trans H;rw [hy185];with_reducible exact H2_)|(have H2_:=(Option.bind_some _ _).symm.trans H;with_reducible exact H2_)|with_reducible exact H|(rw [hy185];exact H)|exact H
                      have Ny185:=Aside0.mk hy185
                      clear hy185
                      have H':=Aside0.mk H
                      clear H
                      have p183:0≤(x26_2:Int):=of_decide_eq_true (by first|(with_reducible assumption)|assumption)
                      have q183:x26_2<(x3_1.length:Int):=of_decide_eq_true (by first|(with_reducible assumption)|assumption)
                      obtain ⟨ad183,e183,hx183_0⟩:=Kd.at_string (Kd.R_reads' HO_24.out).2.2 x26_2 p183 q183
                      cases e183
                      replace p183:=eq_true p183
                      replace q183:=eq_true q183
                      obtain ⟨Ao26,co26,eo26⟩:=Kd.R_slice HO_6.out
                      subst eo26
                      go_wp2_with (first|((with_reducible refine gate_callee (f:=81) rfl ?_);refine goesL_ (some 32) rfl rfl Tryz.func81 (by kernel_rfl) rfl #[.slice Ao26 x6_2.length co26,.string (rdOf ByteArray.empty x3_1 x26_2)] rfl (by (try simp only [List.map_toArray,List.map_cons,List.map_nil]);first|done|rfl|(simp only [List.length_drop,List.length_take];rfl)) ?_;(with_reducible refine (slices_Contains_string_string.calls k2 _ _ x6_2 (rdOf ByteArray.empty x3_1 x26_2) false _ ?side1 ?side2 A22.out).mono ?_);(case side1=>repeat (first|exact (Kd.R_reads' HO_6.out).2.2|(with_reducible refine Kd.C_alloc ?_ _)|(with_reducible refine Kd.C_drewN ?_ _)|(with_reducible refine Kd.C_drew ?_)));(case side2=>exact (Kd.R_reads' HO_6.out).2.1);rintro e w' ⟨rfl,⟨nd,rfl⟩⟩;refine ⟨_,rfl,?_⟩)|((with_reducible refine gate_builtin (b:= .append) (xs:= #[.tmp 34,.tmp 36]) rfl ?_);at_builtin;refine Kd.R_append Kd.string (w0:=w) w.heap.size rfl (.tmp 34) (.tmp 36) 74 9 (.string ⟨#[]⟩) 16 rfl Tryz.underlying74 info9 rfl (by decide) (by omega) (.slice Ao26 x6_2.length co26) x6_2 (rdOf ByteArray.empty x3_1 x26_2) [.string (rdOf ByteArray.empty x3_1 x26_2)] (fun k_=>some k_≠(.slice (some ad183) x3_1.length co18:Value).ownBlock) (fun _=>False) rfl rfl ?aP (fun _ hk=>hk.elim) ?aF ?aO ?aB ?aS ?aL ?_;(case aP=>exact rfl);(case aB=>exact (by repeat (first|(with_reducible first|exact HB.out|apply below_alloc|apply pw_below_drewN|apply below_drew1|refine below_set ?_ GE171.out)|exact HB.out)));(case aF=>exact (fun k_ hk=>Kd.fresh' (Kd.R_lt (by (with_reducible repeat (first|apply Kd.R_alloc|apply Kd.R_drewN|apply Kd.R_drew));exact HO_24.out)) k_ hk));(case aO=>exact (by (with_reducible repeat (first|apply Kd.R_alloc|apply Kd.R_drewN|apply Kd.R_drew));exact HO_6.out));(case aS=>exact (below_size (by repeat (first|(with_reducible first|exact HB.out|apply below_alloc|apply pw_below_drewN|apply below_drew1|refine below_set ?_ GE171.out)|exact HB.out))));(case aL=>have:=LMc25.out;omega);intro v186 w27 ho hb hg hat;rw [←Ny185.out] at ho;have n0_:=Aside0.mk (Kd.R_after (ok:=(fun _=>True)) (by (with_reducible repeat (first|apply Kd.R_alloc|apply Kd.R_drewN|apply Kd.R_drew));exact Kd.R_mono HO_24.out (fun _ hk=>⟨trivial,hk⟩)) hg hat);have n1_:=Aside0.mk (blk_grown (g:=gb171) (o:= .cells #[.string a0_0,.slice A0_1 l0_1.length c0_1,.int .i64 a0_2,.slice A0_3 l0_3.length c0_3,.int .i64 a0_4] 37 (0,0)) (by (with_reducible repeat (first|refine blk_drewN ?_ _|refine blk_drew ?_|refine blk_alloc ?_ _));exact BK171.out) hg (Kd.R_ne HO_6.out BK171.out (by decide)));have n2_:=Aside0.mk (hb);have n3_:=Aside0.mk (ho);clear HO_24;clear BK171;clear HB;clear HO_6;have HO_24:=n0_;have BK171:=n1_;have HB:=n2_;have HO187:=n3_;clear n0_ n1_ n2_ n3_;clear ho hb hg hat))
                      go_roundg k2
                      case measure=>have:=HK1.out;have:=HK2.out;omega
                      case rel=>exact ⟨(y185),(wrap64 (x26_2+1)),(by first|rfl|(simp;done)|(simp [*];done)),H',⟨by have:=HK1.out;have:=HK2.out;omega⟩,⟨by (with_reducible repeat (first|apply Kd.R_alloc|apply Kd.R_drewN|apply Kd.R_drew));exact HO187.out⟩,⟨by (with_reducible repeat (first|apply Kd.R_alloc|apply Kd.R_drewN|apply Kd.R_drew));exact Kd.R_mono HO_24.out (fun _ hk=>hk.2)⟩,⟨by (with_reducible repeat (first|refine blk_drewN ?_ _|refine blk_drew ?_|refine blk_alloc ?_ _));exact BK171.out⟩,⟨by repeat (first|(with_reducible first|exact HB.out|apply below_alloc|apply pw_below_drewN|apply below_drew1|refine below_set ?_ GE171.out)|exact HB.out)⟩⟩
                    · rw [if_neg c25] at H
                      exact absurd H (by simp)
                · rw [if_neg c21] at H
                  exact absurd H (by simp)
              · rw [if_neg c20] at H
                exact absurd H (by simp)
            · rw [if_neg c19] at H
              have c19b0:decide (x26_2<(x3_1.length:Int))=false:=decide_eq_false c19
              clear c19
              obtain rfl:=Option.some.inj H
              go_wp2
              go_ret
              exact ⟨_,by first|rfl|(simp [errW_none,errW_some] <;>rfl)|(simp [*,errW_none,errW_some] <;>rfl),by (with_reducible repeat (first|apply Kd.R_alloc|apply Kd.R_drewN|apply Kd.R_drew));exact Kd.R_mono HO_6.out (fun _ hk=>trivial),by repeat (first|(with_reducible first|exact HB.out|apply below_alloc|apply pw_below_drewN|apply below_drew1|refine below_set ?_ GE171.out)|exact HB.out)⟩
def ergolaw14_sameTerms.l0:Nat→List (S98)→List (S98)→Int→Int→Option (Bool)
  |0,_,_,_,_=>none
  |k+1,x0,x1,x12,x13=>if x13<x12 then (if 0≤x13 then (if x13<(x0.length:Int) then (if x13<(x1.length:Int) then (if (!(((rd_T98 x0 x13).f0)==((rd_T98 x1 x13).f0))||(!((((rd_T98 x0 x13).f1).toList)==(((rd_T98 x1 x13).f1).toList))||(!(((rd_T98 x0 x13).f2)==((rd_T98 x1 x13).f2)))))=true then (some false) else (ergolaw14_sameTerms.l0 k x0 x1 x12 (wrap64 (x13+1)))) else (none)) else (none)) else (none)) else (some true)
def ergolaw14_sameTerms.f (k:Nat) (l0:List (S98)) (l1:List (S98)):Option (Bool):=if (l0.length:Int)=(l1.length:Int) then (ergolaw14_sameTerms.l0 k l0 l1 (l0.length:Int) 0) else (some false)
set_option maxHeartbeats 8000000 in
set_option maxRecDepth 100000 in
theorem ergolaw14_sameTerms.calls (k:Nat) (A0:Option Addr) (c0:Nat) (l0:List (S98)) (A1:Option Addr) (c1:Nat) (l1:List (S98)) (r:Bool) (w:World) (hr0:Kd.C k98 w A0 l0.length l0) (hc0:l0.length≤c0) (hr1:Kd.C k98 w A1 l1.length l1) (hc1:l1.length≤c1) (h:ergolaw14_sameTerms.f k l0 l1=some r):
    Calls Tryz.prog 60 #[.slice A0 l0.length c0,.slice A1 l1.length c1] w fun e w'=>e= .returned (.bool r)∧Drawn0 w w':=by
  have hu98:=Tryz.underlying98
  have HR0:=Aside0.mk hr0
  have HC0:=Aside0.mk hc0
  clear hr0 hc0
  have HR1:=Aside0.mk hr1
  have HC1:=Aside0.mk hc1
  clear hr1 hc1
  have H:(if (l0.length:Int)=(l1.length:Int) then (ergolaw14_sameTerms.l0 k l0 l1 (l0.length:Int) 0) else (some false))=some r:=h
  clear h
  by_cases c3:(l0.length:Int)=(l1.length:Int)
  · rw [if_pos c3] at H
    have c3b0:((l0.length:Int)==(l1.length:Int))=true:=beq_iff_eq.mpr c3
    have c3b1:((l0.length:Int) !=(l1.length:Int))=false:=bne_eq_false_iff_eq.mpr c3
    have c3b2:(l0.length==l1.length)=true:=by first|simpa using c3|(simp at c3 ⊢;omega)
    clear c3
    have H':=Aside0.mk H
    clear H
    go_enter Tryz.func60,Tryz.ntmps60
    go_wp2
    repeat (go_quiet (fail);try go_wp2)
    go_loopg [13] k (fun kq v13 w'=>∃(x13_1:Int),v13= .int .i64 x13_1∧Aside0 (ergolaw14_sameTerms.l0 kq l0 l1 (l0.length:Int) x13_1=some r)∧Aside0 (kq≤k)∧Drawn0 w w')
    case atStart=>exact ⟨(0),(by first|rfl|(simp;done)|(simp [*];done)),H',⟨Nat.le_refl _⟩,by repeat (first|exact Drawn0.refl _|apply Drawn0.step)⟩
    case round=>
      clear H'
      try clear c1
      try clear p2
      try clear c3
      try clear c3b0
      try clear c3b1
      try clear c3b2
      obtain ⟨x13_1,rfl,HA,HK1,⟨m1,rfl⟩⟩:=hrel
      cases gk with
      |zero=>exact absurd HA.out (by simp [ergolaw14_sameTerms.l0])
      |succ k1=>
        have H:=HA.out
        clear HA
        simp only [ergolaw14_sameTerms.l0] at H
        by_cases c4:x13_1<(l0.length:Int)
        · rw [if_pos c4] at H
          have c4b0:decide (x13_1<(l0.length:Int))=true:=decide_eq_true c4
          clear c4
          by_cases c5:0≤x13_1
          · rw [if_pos c5] at H
            have c5b0:decide (0≤x13_1)=true:=decide_eq_true c5
            clear c5
            by_cases c6:x13_1<(l0.length:Int)
            · rw [if_pos c6] at H
              have c6b0:decide (x13_1<(l0.length:Int))=true:=decide_eq_true c6
              clear c6
              by_cases c7:x13_1<(l1.length:Int)
              · rw [if_pos c7] at H
                have c7b0:decide (x13_1<(l1.length:Int))=true:=decide_eq_true c7
                clear c7
                by_cases c8:(!(((rd_T98 l0 x13_1).f0)==((rd_T98 l1 x13_1).f0))||(!((((rd_T98 l0 x13_1).f1).toList)==(((rd_T98 l1 x13_1).f1).toList))||(!(((rd_T98 l0 x13_1).f2)==((rd_T98 l1 x13_1).f2)))))=true
                · rw [if_pos c8] at H
                  have c8b0:(!(((rd_T98 l0 x13_1).f0)==((rd_T98 l1 x13_1).f0))||(!((((rd_T98 l0 x13_1).f1).toList)==(((rd_T98 l1 x13_1).f1).toList))||(!(((rd_T98 l0 x13_1).f2)==((rd_T98 l1 x13_1).f2)))))=true:=c8
                  clear c8
                  obtain rfl:=Option.some.inj H
                  have p197:0≤(x13_1:Int):=of_decide_eq_true (by first|(with_reducible assumption)|assumption)
                  have q197:x13_1<(l0.length:Int):=of_decide_eq_true (by first|(with_reducible assumption)|assumption)
                  obtain ⟨ad197,e197,hx197_0,hx197_1,hx197_2⟩:=at_T98 HR0.out x13_1 p197 q197
                  cases e197
                  replace p197:=eq_true p197
                  replace q197:=eq_true q197
                  have p198:0≤(x13_1:Int):=of_decide_eq_true (by first|(with_reducible assumption)|assumption)
                  have q198:x13_1<(l1.length:Int):=of_decide_eq_true (by first|(with_reducible assumption)|assumption)
                  obtain ⟨ad198,e198,hx198_0,hx198_1,hx198_2⟩:=at_T98 HR1.out x13_1 p198 q198
                  cases e198
                  replace p198:=eq_true p198
                  replace q198:=eq_true q198
                  go_wp2
                  repeat (go_quiet (fail);try go_wp2)
                  go_ret
                  exact ⟨by first|rfl|(simp;done)|(simp [*];done),by repeat (first|exact Drawn0.refl _|apply Drawn0.step)⟩
                · rw [if_neg c8] at H
                  have c8b0:(!(((rd_T98 l0 x13_1).f0)==((rd_T98 l1 x13_1).f0))||(!((((rd_T98 l0 x13_1).f1).toList)==(((rd_T98 l1 x13_1).f1).toList))||(!(((rd_T98 l0 x13_1).f2)==((rd_T98 l1 x13_1).f2)))))=false:=by simpa using c8
                  clear c8
                  have H':=Aside0.mk H
                  clear H
                  have p197:0≤(x13_1:Int):=of_decide_eq_true (by first|(with_reducible assumption)|assumption)
                  have q197:x13_1<(l0.length:Int):=of_decide_eq_true (by first|(with_reducible assumption)|assumption)
                  obtain ⟨ad197,e197,hx197_0,hx197_1,hx197_2⟩:=at_T98 HR0.out x13_1 p197 q197
                  cases e197
                  replace p197:=eq_true p197
                  replace q197:=eq_true q197
                  have p198:0≤(x13_1:Int):=of_decide_eq_true (by first|(with_reducible assumption)|assumption)
                  have q198:x13_1<(l1.length:Int):=of_decide_eq_true (by first|(with_reducible assumption)|assumption)
                  obtain ⟨ad198,e198,hx198_0,hx198_1,hx198_2⟩:=at_T98 HR1.out x13_1 p198 q198
                  cases e198
                  replace p198:=eq_true p198
                  replace q198:=eq_true q198
                  go_wp2
                  repeat (go_quiet (fail);try go_wp2)
                  go_roundg k1
                  case measure=>have:=HK1.out;omega
                  case rel=>exact ⟨(wrap64 (x13_1+1)),(by first|rfl|(simp;done)|(simp [*];done)),H',⟨by have:=HK1.out;omega⟩,by repeat (first|exact Drawn0.refl _|apply Drawn0.step)⟩
              · rw [if_neg c7] at H
                exact absurd H (by simp)
            · rw [if_neg c6] at H
              exact absurd H (by simp)
          · rw [if_neg c5] at H
            exact absurd H (by simp)
        · rw [if_neg c4] at H
          have c4b0:decide (x13_1<(l0.length:Int))=false:=decide_eq_false c4
          clear c4
          obtain rfl:=Option.some.inj H
          go_wp2
          repeat (go_quiet (fail);try go_wp2)
          go_ret
          exact ⟨by first|rfl|(simp;done)|(simp [*];done),by repeat (first|exact Drawn0.refl _|apply Drawn0.step)⟩
  · rw [if_neg c3] at H
    have c3b0:((l0.length:Int)==(l1.length:Int))=false:=beq_eq_false_iff_ne.mpr c3
    have c3b1:((l0.length:Int) !=(l1.length:Int))=true:=bne_iff_ne.mpr c3
    have c3b2:(l0.length==l1.length)=false:=by first|simpa using c3|(simp at c3 ⊢;omega)
    obtain rfl:=Option.some.inj H
    go_enter Tryz.func60,Tryz.ntmps60
    go_wp2
    repeat (go_quiet (fail);try go_wp2)
    go_ret
    exact ⟨by first|rfl|(simp;done)|(simp [*];done),by repeat (first|exact Drawn0.refl _|apply Drawn0.step)⟩
def ergolaw14_SameAtom.f (k:Nat) (a0_0:ByteArray) (l0_1:List (S98)) (a1_0:ByteArray) (l1_1:List (S98)):Option (Bool):=if a0_0.toList=a1_0.toList then ((ergolaw14_sameTerms.f k l0_1 l1_1).bind fun t201=>(some t201)) else (some false)
set_option maxHeartbeats 8000000 in
set_option maxRecDepth 100000 in
theorem ergolaw14_SameAtom.calls (k:Nat) (a0_0:ByteArray) (A0_1:Option Addr) (c0_1:Nat) (l0_1:List (S98)) (a1_0:ByteArray) (A1_1:Option Addr) (c1_1:Nat) (l1_1:List (S98)) (r:Bool) (w:World) (hr0_1:Kd.C k98 w A0_1 l0_1.length l0_1) (hc0_1:l0_1.length≤c0_1) (hr1_1:Kd.C k98 w A1_1 l1_1.length l1_1) (hc1_1:l1_1.length≤c1_1) (h:ergolaw14_SameAtom.f k a0_0 l0_1 a1_0 l1_1=some r):
    Calls Tryz.prog 26 #[.agg #[.string a0_0,.slice A0_1 l0_1.length c0_1],.agg #[.string a1_0,.slice A1_1 l1_1.length c1_1]] w fun e w'=>e= .returned (.bool r)∧Below w.heap.size w w':=by
  have hu33:=Tryz.underlying33
  have HR0_1:=Aside0.mk hr0_1
  have HC0_1:=Aside0.mk hc0_1
  clear hr0_1 hc0_1
  have HR1_1:=Aside0.mk hr1_1
  have HC1_1:=Aside0.mk hc1_1
  clear hr1_1 hc1_1
  have HB:=Aside0.mk (Below.refl w.heap.size w)
  have H:(if a0_0.toList=a1_0.toList then ((ergolaw14_sameTerms.f k l0_1 l1_1).bind fun t201=>(some t201)) else (some false))=some r:=h
  clear h
  by_cases c3:a0_0.toList=a1_0.toList
  · rw [if_pos c3] at H
    have c3b0:(a0_0.toList==a1_0.toList)=true:=beq_iff_eq.mpr c3
    have c3b1:(a0_0.toList !=a1_0.toList)=false:=bne_eq_false_iff_eq.mpr c3
    clear c3
    replace H:=Option.bind_eq_some_iff.mp H
    obtain ⟨t201,A40,H⟩:=H
    replace H:(some t201)=some r:=H
    have A4:=Aside0.mk A40
    clear A40
    obtain rfl:=Option.some.inj H
    go_enter Tryz.func26,Tryz.ntmps26
    go_wp2_with (first|((with_reducible refine gate_dst (N:=2) rfl ?_);refine box_event ?hg (N:=2) ?hd (cs:= #[.string a0_0,.slice A0_1 l0_1.length c0_1]) (t:=33) ?hr ?_;(case hd=>rfl);(case hg=>rfl);(case hr=>first|(go_simp;done)|(go_simp;rfl));intro gb199 hg w5 hbox hb;have n0_:=Aside0.mk (below_step (by repeat (first|(with_reducible first|exact HB.out|apply below_alloc|apply pw_below_drewN|apply below_drew1)|exact HB.out)) hb);have n1_:=Aside0.mk (hbox);have n2_:=Aside0.mk ((by rw [hg];exact (below_size (by repeat (first|(with_reducible first|exact HB.out|apply below_alloc|apply pw_below_drewN|apply below_drew1)|exact HB.out))):w.heap.size≤gb199));have n3_:=Aside0.mk ((by rw [hg];exact (below_size (by repeat (first|(with_reducible first|exact HB.out|apply below_alloc|apply pw_below_drewN|apply below_drew1)|exact HB.out))):w.heap.size≤gb199));clear HB;have HB:=n0_;have BK199:=n1_;have GW199:=n2_;have GE199:=n3_;clear n0_ n1_ n2_ n3_;clear hb hbox hg)|((with_reducible refine gate_dst (N:=3) rfl ?_);refine box_event ?hg (N:=3) ?hd (cs:= #[.string a1_0,.slice A1_1 l1_1.length c1_1]) (t:=33) ?hr ?_;(case hd=>rfl);(case hg=>rfl);(case hr=>first|(go_simp;done)|(go_simp;rfl));intro gb200 hg w6 hbox hb;have n0_:=Aside0.mk (blk_below (g:=gb199) (o:= .cells #[.string a0_0,.slice A0_1 l0_1.length c0_1] 33 (0,0)) (by (with_reducible repeat (first|refine blk_drewN ?_ _|refine blk_drew ?_|refine blk_alloc ?_ _));exact BK199.out) hb);have n1_:=Aside0.mk (below_step (by repeat (first|(with_reducible first|exact HB.out|apply below_alloc|apply pw_below_drewN|apply below_drew1|refine below_set ?_ GE199.out)|exact HB.out)) hb);have n2_:=Aside0.mk (hbox);have n3_:=Aside0.mk ((by rw [hg];exact (below_size (by repeat (first|(with_reducible first|exact HB.out|apply below_alloc|apply pw_below_drewN|apply below_drew1|refine below_set ?_ GE199.out)|exact HB.out))):w.heap.size≤gb200));have n4_:=Aside0.mk ((by rw [hg];exact (below_size (by repeat (first|(with_reducible first|exact HB.out|apply below_alloc|apply pw_below_drewN|apply below_drew1|refine below_set ?_ GE199.out)|exact HB.out))):w.heap.size≤gb200));have n5_:=Aside0.mk ((by rw [hg];exact Nat.ne_of_lt (blk_lt (g:=gb199) (o:= .cells #[.string a0_0,.slice A0_1 l0_1.length c0_1] 33 (0,0)) (by (with_reducible repeat (first|refine blk_drewN ?_ _|refine blk_drew ?_|refine blk_alloc ?_ _));exact BK199.out)):gb199≠gb200));have n6_:=Aside0.mk ((by rw [hg];exact Nat.ne_of_gt (blk_lt (g:=gb199) (o:= .cells #[.string a0_0,.slice A0_1 l0_1.length c0_1] 33 (0,0)) (by (with_reducible repeat (first|refine blk_drewN ?_ _|refine blk_drew ?_|refine blk_alloc ?_ _));exact BK199.out)):gb200≠gb199));clear BK199;clear HB;have BK199:=n0_;have HB:=n1_;have BK200:=n2_;have GW200:=n3_;have GE200:=n4_;have NB199_200:=n5_;have NB200_199:=n6_;clear n0_ n1_ n2_ n3_ n4_ n5_ n6_;clear hb hbox hg;have hnb7:=NB199_200.out;have hnc7:=NB200_199.out;have hcz8_0:w6.cell? ⟨gb199,0,none⟩=some (.string a0_0):=(blk_cell BK199.out 0).trans rfl;have hcz8_1:w6.cell? ⟨gb199,1,none⟩=some (.slice A0_1 l0_1.length c0_1):=(blk_cell BK199.out 1).trans rfl;have hfz8_0:=blk_frozen BK199.out 0;have hfz8_1:=blk_frozen BK199.out 1;have hcz9_0:w6.cell? ⟨gb200,0,none⟩=some (.string a1_0):=(blk_cell BK200.out 0).trans rfl;have hcz9_1:w6.cell? ⟨gb200,1,none⟩=some (.slice A1_1 l1_1.length c1_1):=(blk_cell BK200.out 1).trans rfl;have hfz9_0:=blk_frozen BK200.out 0;have hfz9_1:=blk_frozen BK200.out 1)|(go_at_call 60;(with_reducible refine (ergolaw14_sameTerms.calls k _ _ l0_1 _ _ l1_1 t201 _ ?side1 ?side2 ?side3 ?side4 A4.out).mono ?_);(case side1=>repeat (first|exact (Kd.C_below HR0_1.out HB.out)|(with_reducible refine Kd.C_alloc ?_ _)|(with_reducible refine Kd.C_drewN ?_ _)|(with_reducible refine Kd.C_drew ?_)));(case side2=>exact HC0_1.out);(case side3=>repeat (first|exact (Kd.C_below HR1_1.out HB.out)|(with_reducible refine Kd.C_alloc ?_ _)|(with_reducible refine Kd.C_drewN ?_ _)|(with_reducible refine Kd.C_drew ?_)));(case side4=>exact HC1_1.out);rintro e w' ⟨rfl,⟨nd,rfl⟩⟩))
    go_ret
    exact ⟨by first|rfl|(simp [errW_none,errW_some] <;>rfl)|(simp [*,errW_none,errW_some] <;>rfl),by repeat (first|(with_reducible first|exact HB.out|apply below_alloc|apply pw_below_drewN|apply below_drew1|refine below_set ?_ GE199.out|refine below_set ?_ GE200.out)|exact HB.out)⟩
  · rw [if_neg c3] at H
    have c3b0:(a0_0.toList==a1_0.toList)=false:=beq_eq_false_iff_ne.mpr c3
    have c3b1:(a0_0.toList !=a1_0.toList)=true:=bne_iff_ne.mpr c3
    obtain rfl:=Option.some.inj H
    go_enter Tryz.func26,Tryz.ntmps26
    go_wp2_with (first|((with_reducible refine gate_dst (N:=2) rfl ?_);refine box_event ?hg (N:=2) ?hd (cs:= #[.string a0_0,.slice A0_1 l0_1.length c0_1]) (t:=33) ?hr ?_;(case hd=>rfl);(case hg=>rfl);(case hr=>first|(go_simp;done)|(go_simp;rfl));intro gb199 hg w10 hbox hb;have n0_:=Aside0.mk (below_step (by repeat (first|(with_reducible first|exact HB.out|apply below_alloc|apply pw_below_drewN|apply below_drew1)|exact HB.out)) hb);have n1_:=Aside0.mk (hbox);have n2_:=Aside0.mk ((by rw [hg];exact (below_size (by repeat (first|(with_reducible first|exact HB.out|apply below_alloc|apply pw_below_drewN|apply below_drew1)|exact HB.out))):w.heap.size≤gb199));have n3_:=Aside0.mk ((by rw [hg];exact (below_size (by repeat (first|(with_reducible first|exact HB.out|apply below_alloc|apply pw_below_drewN|apply below_drew1)|exact HB.out))):w.heap.size≤gb199));clear HB;have HB:=n0_;have BK199:=n1_;have GW199:=n2_;have GE199:=n3_;clear n0_ n1_ n2_ n3_;clear hb hbox hg)|((with_reducible refine gate_dst (N:=3) rfl ?_);refine box_event ?hg (N:=3) ?hd (cs:= #[.string a1_0,.slice A1_1 l1_1.length c1_1]) (t:=33) ?hr ?_;(case hd=>rfl);(case hg=>rfl);(case hr=>first|(go_simp;done)|(go_simp;rfl));intro gb200 hg w11 hbox hb;have n0_:=Aside0.mk (blk_below (g:=gb199) (o:= .cells #[.string a0_0,.slice A0_1 l0_1.length c0_1] 33 (0,0)) (by (with_reducible repeat (first|refine blk_drewN ?_ _|refine blk_drew ?_|refine blk_alloc ?_ _));exact BK199.out) hb);have n1_:=Aside0.mk (below_step (by repeat (first|(with_reducible first|exact HB.out|apply below_alloc|apply pw_below_drewN|apply below_drew1|refine below_set ?_ GE199.out)|exact HB.out)) hb);have n2_:=Aside0.mk (hbox);have n3_:=Aside0.mk ((by rw [hg];exact (below_size (by repeat (first|(with_reducible first|exact HB.out|apply below_alloc|apply pw_below_drewN|apply below_drew1|refine below_set ?_ GE199.out)|exact HB.out))):w.heap.size≤gb200));have n4_:=Aside0.mk ((by rw [hg];exact (below_size (by repeat (first|(with_reducible first|exact HB.out|apply below_alloc|apply pw_below_drewN|apply below_drew1|refine below_set ?_ GE199.out)|exact HB.out))):w.heap.size≤gb200));have n5_:=Aside0.mk ((by rw [hg];exact Nat.ne_of_lt (blk_lt (g:=gb199) (o:= .cells #[.string a0_0,.slice A0_1 l0_1.length c0_1] 33 (0,0)) (by (with_reducible repeat (first|refine blk_drewN ?_ _|refine blk_drew ?_|refine blk_alloc ?_ _));exact BK199.out)):gb199≠gb200));have n6_:=Aside0.mk ((by rw [hg];exact Nat.ne_of_gt (blk_lt (g:=gb199) (o:= .cells #[.string a0_0,.slice A0_1 l0_1.length c0_1] 33 (0,0)) (by (with_reducible repeat (first|refine blk_drewN ?_ _|refine blk_drew ?_|refine blk_alloc ?_ _));exact BK199.out)):gb200≠gb199));clear BK199;clear HB;have BK199:=n0_;have HB:=n1_;have BK200:=n2_;have GW200:=n3_;have GE200:=n4_;have NB199_200:=n5_;have NB200_199:=n6_;clear n0_ n1_ n2_ n3_ n4_ n5_ n6_;clear hb hbox hg;have hnb12:=NB199_200.out;have hnc12:=NB200_199.out;have hcz13_0:w11.cell? ⟨gb199,0,none⟩=some (.string a0_0):=(blk_cell BK199.out 0).trans rfl;have hcz13_1:w11.cell? ⟨gb199,1,none⟩=some (.slice A0_1 l0_1.length c0_1):=(blk_cell BK199.out 1).trans rfl;have hfz13_0:=blk_frozen BK199.out 0;have hfz13_1:=blk_frozen BK199.out 1;have hcz14_0:w11.cell? ⟨gb200,0,none⟩=some (.string a1_0):=(blk_cell BK200.out 0).trans rfl;have hcz14_1:w11.cell? ⟨gb200,1,none⟩=some (.slice A1_1 l1_1.length c1_1):=(blk_cell BK200.out 1).trans rfl;have hfz14_0:=blk_frozen BK200.out 0;have hfz14_1:=blk_frozen BK200.out 1))
    go_ret
    exact ⟨by first|rfl|(simp [errW_none,errW_some] <;>rfl)|(simp [*,errW_none,errW_some] <;>rfl),by repeat (first|(with_reducible first|exact HB.out|apply below_alloc|apply pw_below_drewN|apply below_drew1|refine below_set ?_ GE199.out|refine below_set ?_ GE200.out)|exact HB.out)⟩
end Go.Proofs.YtjlnpdpkobpkiaaGreatDoorPSP
