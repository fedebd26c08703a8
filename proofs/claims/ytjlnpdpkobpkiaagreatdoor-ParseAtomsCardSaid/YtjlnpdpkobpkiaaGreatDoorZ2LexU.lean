import Derived.Test.YtjlnpdpkobpkiaaGreatDoorZ2LexT
set_option linter.unusedVariables false
set_option linter.unusedSimpArgs false
namespace Go.Proofs.YtjlnpdpkobpkiaaGreatDoor
open Go.RowKit
theorem byte_ne {c x:UInt8} (h:¬c=x):((c.toNat:Int)==(x.toNat:Int))=false:=by
  have:¬c.toNat=x.toNat:=fun e=>h (UInt8.toNat_inj.1 e)
  simpa using (show ¬(c.toNat:Int)=(x.toNat:Int) by omega)
theorem byte_bne {c x:UInt8} (h:¬c=x):((c.toNat:Int) !=(x.toNat:Int))=true:=by
  have:¬c.toNat=x.toNat:=fun e=>h (UInt8.toNat_inj.1 e)
  simpa using (show ¬(c.toNat:Int)=(x.toNat:Int) by omega)
theorem byte_eq {c x:UInt8} (h:c=x):((c.toNat:Int)==(x.toNat:Int))=true:=by subst h;simp
theorem byte_beq {c x:UInt8} (h:c=x):((c.toNat:Int) !=(x.toNat:Int))=false:=by subst h;simp
theorem escape_some {d x:UInt8} (h:escB d=some x) (w:World):Calls Tryz.prog 113 #[.int .u8 (d.toNat:Int)] w (RetS w (.tuple #[.int .u8 (x.toNat:Int),.bool true])):=by
  have:=escape_any d w
  rwa [escV,h] at this
theorem escape_none {d:UInt8} (h:escB d=none) (w:World):Calls Tryz.prog 113 #[.int .u8 (d.toNat:Int)] w (RetS w (.tuple #[.int .u8 0,.bool false])):=by
  have:=escape_any d w
  rwa [escV,h] at this
structure TW (w wr:World) (b:Nat) (s:ByteArray) (j:Nat) (out:List UInt8):Prop where
  rdr:RdrAt wr b s j
  fr:Fr (fun i=>i=b) w wr
  res:ResAt wr w.heap.size
  bld:IsB (w.heap.size+1) (w.heap.size+1) (Lib.byteCells out) wr
  sz:w.heap.size+1<wr.heap.size
  lt:b<w.heap.size
theorem TW.drewN {w wr:World} {b j:Nat} {s:ByteArray} {out:List UInt8} (h:TW w wr b s j out) (n:Nat):TW w (wr.drewN n) b s j out:=
  ⟨h.rdr,h.fr.drewN n,h.res,h.bld,h.sz,h.lt⟩
theorem TW.set {w wr:World} {b j:Nat} {s:ByteArray} {out:List UInt8} (h:TW w wr b s j out) (j':Nat):TW w (wr.setCell ⟨b,1,none⟩ (.int .i64 (j':Int))) b s j' out:=by
  have hlt:=h.lt
  have F:Fr (fun i=>i=b) wr (wr.setCell ⟨b,1,none⟩ (.int .i64 (j':Int))):=Fr.setCell wr (⟨b,1,none⟩:Addr) _
  exact ⟨h.rdr.set j',h.fr.trans F (fun _ _ h=>h),h.res.keep (F:=fun i=>i=b) F (show ¬w.heap.size=b by omega),h.bld.keep F (fun i hi=>by omega),by have:=h.sz;simpa [World.setCell] using this,h.lt⟩
theorem TW.write {w wr w1:World} {b j:Nat} {s:ByteArray} {out:List UInt8} {c:UInt8} {v:Value} {e:Ending} (h:TW w wr b s j out) (hp:BldPost (w.heap.size+1) (w.heap.size+1) (Lib.byteCells out++[.int .u8 (c.toNat:Int)]) v wr e w1):
    e= .returned v∧TW w w1 b s j (out++[c]):=by
  obtain ⟨he,hb,hbel⟩:=hp
  have hlt:=h.lt
  have F:Fr (fun i=>w.heap.size+1≤i) wr w1:=Fr.of_below hbel hbel.size
  refine ⟨he,h.rdr.keep F (show ¬_≤b by omega),h.fr.trans F (fun i hi h=>by omega),h.res.keep (F:=fun i=>w.heap.size+1≤i) F (by omega),?_,by have:=h.sz;have:=F.size;omega,h.lt⟩
  rw [Lib.byteCells_append]
  exact hb
theorem textS_q (p:Nat) (out:List UInt8) {c:UInt8} (h:c=34) (t:List UInt8):textS p out (c::t)=if 40<out.length then .bad 3 p else .tok 4 out 0 p t:=by
  rw [textS.eq_def]
  simp only [if_pos h]
theorem textS_b (p:Nat) (out:List UInt8) {c:UInt8} (h:¬c=34) (h':c=92) (d:UInt8) (t:List UInt8):textS p out (c::d::t)=match escB d with|some e=>textS p (out++[e]) t|none=> .bad 1 (t.length+2):=by
  rw [textS.eq_def]
  simp only [if_neg h,if_pos h']
  cases escB d <;>rfl
theorem textS_b0 (p:Nat) (out:List UInt8) {c:UInt8} (h:¬c=34) (h':c=92):textS p out [c]= .bad 1 1:=by
  rw [textS.eq_def]
  simp only [if_neg h,if_pos h']
theorem textS_c (p:Nat) (out:List UInt8) {c:UInt8} (h:¬c=34) (h':¬c=92) (t:List UInt8):textS p out (c::t)=if c.toNat<32 then .bad 1 (t.length+1) else textS p (out++[c]) t:=by
  rw [textS.eq_def]
  simp only [if_neg h,if_neg h']
theorem textS_0 (p:Nat) (out:List UInt8):textS p out []= .bad 1 0:=by
  rw [textS.eq_def]
theorem byteCells_len (l:List UInt8):(Lib.byteCells l).length=l.length:=by simp [Lib.byteCells]
set_option maxHeartbeats 8000000 in
set_option maxRecDepth 100000 in
theorem text_any {w:World} {b k:Nat} {s:ByteArray} (h:RdrAt w b s k) (hk:k<s.size) (hs:s.size≤1073741824):
    Calls Tryz.prog 92 #[.pointer (some ⟨b,0,none⟩)] w (OutPost w b s (textS (s.size-k) [] (s.data.toList.drop (k+1)))):=by
  have hlt0:=blk_lt h
  obtain ⟨c0,c1,f1⟩:=h.cells
  have H0:=hid h
  clear h
  go_enter Tryz.func92,Tryz.ntmps92
  go_wp2_with fail
  go_loopg [20] s.size (fun g _ wr=>∃(j:Nat) (out:List UInt8),k<j∧j≤s.size∧s.size-j≤g∧out.length+k<j∧w.heap.size+1<wr.heap.size∧Hid (TW w wr b s j out∧textS (s.size-k) [] (s.data.toList.drop (k+1))=textS (s.size-k) out (s.data.toList.drop j)))
  case atStart=>
    have hz:(w.setCell ⟨b,1,none⟩ (.int .i64 ((k+1:Nat):Int))).heap.size=w.heap.size:=by simp [World.setCell]
    have T0:∀W:World,W.heap.size=w.heap.size→RdrAt W b s (k+1)→Fr (fun i=>i=b) w W→TW w ((W.alloc (.cells #[.int .i64 0,.string ⟨#[]⟩,.int .u64 0,.int .i64 0] 68)).alloc (.cells #[.pointer none,.slice none 0 0] 180)) b s (k+1) []:=by
      intro W hW hR hF
      have R1:ResAt ((W.alloc (.cells #[.int .i64 0,.string ⟨#[]⟩,.int .u64 0,.int .i64 0] 68)).alloc (.cells #[.pointer none,.slice none 0 0] 180)) w.heap.size:=by
        show _=_
        rw [←hW,Lib.alloc_old _ _ _ (by simp)]
        exact heap_alloc_new W _
      have N1:((W.alloc (.cells #[.int .i64 0,.string ⟨#[]⟩,.int .u64 0,.int .i64 0] 68)).alloc (.cells #[.pointer none,.slice none 0 0] 180)).heap[w.heap.size+1]? =some (.cells #[.pointer none,.slice none 0 0] 180 (0,0)):=by
        have:=heap_alloc_new (W.alloc (.cells #[.int .i64 0,.string ⟨#[]⟩,.int .u64 0,.int .i64 0] 68)) (.cells #[.pointer none,.slice none 0 0] 180)
        rw [←hW]
        simpa using this
      exact ⟨by rw [RdrAt,Lib.alloc_old _ _ _ (by simp;omega),Lib.alloc_old _ _ _ (by omega)];exact hR,(hF.alloc _).alloc _,R1,IsB.fresh (Nat.le_refl _) N1,by simp;omega,hlt0⟩
    exact ⟨k+1,[],by omega,by omega,by omega,by simp,by simp [World.setCell],hid ⟨T0 _ hz (H0.out.set (k+1)) (Fr.setCell w (⟨b,1,none⟩:Addr) _),rfl⟩⟩
  case round=>
    clear c0 c1 f1 H0
    obtain ⟨j,out,hkj,hj,hg,hol,hsz,H⟩:=hrel
    obtain ⟨wo,rfl⟩:∃x:World,x=wr:=⟨_,rfl⟩
    obtain ⟨c0,c1,f1⟩:=H.out.1.rdr.cells
    obtain ⟨⟨r0,r1,r2,r3⟩,q0,q1,q2,q3⟩:=H.out.1.res.cells
    have W1:IntKind.i64.wrap ((j:Int)+1)=(j:Int)+1:=IntWalk.i64_in _ (by omega)
    have W1:=hid W1
    by_cases hlt:j<s.size
    · have Hd := hid (drop_at hlt)
      by_cases h34:s[j]=34
      · have e34 : ((s[j].toNat : Int) != 34) = false := byte_beq h34
        have H34:=hid h34
        have hne:((j:Int)==(s.size:Int))=false:=by simp;omega
        clear h34
        by_cases hm:40<out.length
        · have HW:Hid (textS (s.size-k) [] (s.data.toList.drop (k+1))= .bad 3 (s.size-k)):=by
            show _=_
            rw [H.out.2,Hd.out,textS_q _ _ H34.out,if_pos hm]
          have hm':40<(out.length:Int):=by omega
          go_wp2_with fail
          go_quiet (fail)
          go_wp2_with fail
          go_quiet (fail)
          go_wp2_with fail
          have T1:=fun n=>hid ((H.out.1.drewN n).set (j+1))
          refine (Tryz.Builder_Len (w.heap.size+1) (w.heap.size+1) (Lib.byteCells out) _ (T1 _).out.bld).mono ?_
          rintro e w' ⟨rfl,rfl⟩
          rw [byteCells_len]
          go_wp2_with fail
          refine (FNew_any 3 _ _ _).mono ?_
          rintro e w1 ⟨f,rfl,hF,hlf,hb1⟩
          have R1:=(T1 _).out.res.keep (F:=fun _=>False) (Fr.quiet hb1) (fun h=>h)
          have HB:=hid hb1
          have HF:=hid hF
          obtain ⟨⟨r0,r1,r2,r3⟩,q0,q1,q2,q3⟩:=R1.cells
          clear hF R1 hb1
          go_wp2
          exact bodyPost_ret (v:= .tuple #[tokV 0 (bytesOf []) 0 0,faultV f]) (by simp [results,Tryz.results92,go_sem,r0,r1,r2,r3]) rfl (end_bad HW rfl (by omega) (Nat.lt_of_succ_lt (T1 _).out.sz) (T1 _).out.fr HF.out hlf HB.out (Fr.set4 _ _ _ _ _ _))
        · have HW:Hid (textS (s.size-k) [] (s.data.toList.drop (k+1))= .tok 4 out 0 (s.size-k) (s.data.toList.drop (j+1))):=by
            show _=_
            rw [H.out.2,Hd.out,textS_q _ _ H34.out,if_neg hm]
          have hm':¬40<(out.length:Int):=by omega
          go_wp2_with fail
          go_quiet (fail)
          go_wp2_with fail
          go_quiet (fail)
          go_wp2_with fail
          have T1:=fun n=>hid ((H.out.1.drewN n).set (j+1))
          refine (Tryz.Builder_Len (w.heap.size+1) (w.heap.size+1) (Lib.byteCells out) _ (T1 _).out.bld).mono ?_
          rintro e w' ⟨rfl,rfl⟩
          rw [byteCells_len]
          go_wp2_with fail
          refine (Tryz.Builder_String_any (w.heap.size+1) (w.heap.size+1) out _ (T1 _).out.bld (Nat.le_of_lt (T1 _).out.sz)).mono ?_
          rintro e w1 ⟨rfl,hb1⟩
          have F1:=Fr.of_below hb1 hb1.size
          have R1:=(T1 _).out.res.keep (F:=fun i=>w.heap.size+1≤i) F1 (by omega)
          have HR:=hid ((T1 _).out.rdr.keep F1 (show ¬_≤b by omega))
          have HF:=hid ((T1 _).out.fr.trans F1 (fun i hi h=>by omega))
          obtain ⟨⟨r0,r1,r2,r3⟩,q0,q1,q2,q3⟩:=R1.cells
          clear F1 R1 hb1
          go_wp2
          exact bodyPost_ret (v:= .tuple #[tokV 4 (bytesOf out) 0 k,.nilIface]) (by simp [results,Tryz.results92,go_sem,r0,r1,r2,r3]) rfl (end_tok HW (by simp;omega) (j:=j+1) (by omega) rfl hlt0 HR.out HF.out (Fr.set4 _ _ _ _ _ _))
      · have e34 : ((s[j].toNat : Int) != 34) = true := byte_bne h34
        have H34:=hid h34
        clear h34
        by_cases h92:s[j]=92
        · have e92 : ((s[j].toNat : Int) == 92) = true := byte_eq h92
          have H92:=hid h92
          clear h92
          by_cases hl2:j+1<s.size
          · have Hd2 := hid (drop_at hl2)
            cases he:escB s[j+1] with
            |some x=>
              have HE:=hid he
              have hx:=x.toNat_lt
              have HW:Hid (textS (s.size-k) [] (s.data.toList.drop (k+1))=textS (s.size-k) (out++[x]) (s.data.toList.drop (j+2))):=by
                show _=_
                rw [H.out.2,Hd.out,Hd2.out,textS_b _ _ H34.out H92.out,he]
              clear he
              go_wp2_with fail
              go_quiet (fail)
              go_wp2_with fail
              go_quiet (fail)
              go_wp2_with fail
              have W2:=W1.out
              have W3:(0:Int)≤(j:Int)+1:=by omega
              have W4:((j:Int)+1).toNat=j+1:=by omega
              have W5:(j:Int)+1<(s.size:Int):=by omega
              go_quiet (fail)
              go_wp2_with fail
              go_quiet ((go_at_call 113;refine (escape_some HE.out _).mono ?_;rintro e w' ⟨rfl,rfl⟩;exact ⟨rfl,_,rfl⟩))
              try clear W2
              try clear W4
              try clear W3
              try clear W5
              go_wp2_with fail
              have T1:=fun n=>hid ((H.out.1.drewN n).set (j+1))
              refine (WriteByte_any _ _ (Lib.byteCells out) _ _ (T1 _).out.bld (by rw [byteCells_len];omega) (Nat.le_of_lt (T1 _).out.sz)).mono ?_
              intro e w1 hp
              obtain ⟨rfl,hT⟩:=(T1 _).out.write hp
              have T2:=hid hT
              obtain ⟨c0,c1,f1⟩:=hT.rdr.cells
              have hsz1:=hT.sz
              clear hT hp
              go_wp2
              go_roundg (s.size-(j+2))
              case measure=>omega
              case rel=>exact ⟨j+2,out++[x],by omega,by omega,Nat.le_refl _,by simp;omega,by simpa [World.setCell] using hsz1,hid ⟨T2.out.set (j+2),HW.out⟩⟩
            |none=>
              have HE:=hid he
              have HW:Hid (textS (s.size-k) [] (s.data.toList.drop (k+1))= .bad 1 (s.size-j)):=by
                show _=_
                rw [H.out.2,Hd.out,Hd2.out,textS_b _ _ H34.out H92.out,he]
                simp only [drop_len]
                congr 1
                omega
              clear he
              go_wp2_with fail
              go_quiet (fail)
              go_wp2_with fail
              go_quiet (fail)
              go_wp2_with fail
              have W2:=W1.out
              have W3:(0:Int)≤(j:Int)+1:=by omega
              have W4:((j:Int)+1).toNat=j+1:=by omega
              have W5:(j:Int)+1<(s.size:Int):=by omega
              go_quiet (fail)
              go_wp2_with fail
              go_quiet ((go_at_call 113;refine (escape_none HE.out _).mono ?_;rintro e w' ⟨rfl,rfl⟩;exact ⟨rfl,_,rfl⟩))
              try clear W2
              try clear W4
              try clear W3
              try clear W5
              go_wp2_with fail
              have T1:=fun n=>hid (H.out.1.drewN n)
              refine (FNew_any 1 _ _ _).mono ?_
              rintro e w1 ⟨f,rfl,hF,hlf,hb1⟩
              have R1:=(T1 _).out.res.keep (F:=fun _=>False) (Fr.quiet hb1) (fun h=>h)
              have HB:=hid hb1
              have HF:=hid hF
              obtain ⟨⟨r0,r1,r2,r3⟩,q0,q1,q2,q3⟩:=R1.cells
              clear hF R1 hb1
              go_wp2
              exact bodyPost_ret (v:= .tuple #[tokV 0 (bytesOf []) 0 0,faultV f]) (by simp [results,Tryz.results92,go_sem,r0,r1,r2,r3]) rfl (end_bad HW rfl (by omega) (Nat.lt_of_succ_lt (T1 _).out.sz) (T1 _).out.fr HF.out hlf HB.out (Fr.set4 _ _ _ _ _ _))
          · have HW:Hid (textS (s.size-k) [] (s.data.toList.drop (k+1))= .bad 1 (s.size-j)):=by
              show _=_
              rw [H.out.2,Hd.out,List.drop_eq_nil_of_le (by rw [Array.length_toList];exact Nat.le_of_not_lt hl2),textS_b0 _ _ H34.out H92.out]
              congr 1
              omega
            go_wp2_with fail
            go_quiet (fail)
            go_wp2_with fail
            go_quiet (fail)
            go_wp2_with fail
            have W2:=W1.out
            have W5:¬(j:Int)+1<(s.size:Int):=by omega
            have W6:decide ((j:Int)+1<(s.size:Int))=false:=by simpa using W5
            have h32:¬(s[j].toNat:Int)<32:=by rw [H92.out];decide
            go_quiet (fail)
            try clear W2 W6
            go_wp2_with fail
            have T1:=fun n=>hid (H.out.1.drewN n)
            refine (FNew_any 1 _ _ _).mono ?_
            rintro e w1 ⟨f,rfl,hF,hlf,hb1⟩
            have R1:=(T1 _).out.res.keep (F:=fun _=>False) (Fr.quiet hb1) (fun h=>h)
            have HB:=hid hb1
            have HF:=hid hF
            obtain ⟨⟨r0,r1,r2,r3⟩,q0,q1,q2,q3⟩:=R1.cells
            clear hF R1 hb1
            go_wp2
            exact bodyPost_ret (v:= .tuple #[tokV 0 (bytesOf []) 0 0,faultV f]) (by simp [results,Tryz.results92,go_sem,r0,r1,r2,r3]) rfl (end_bad HW rfl (by omega) (Nat.lt_of_succ_lt (T1 _).out.sz) (T1 _).out.fr HF.out hlf HB.out (Fr.set4 _ _ _ _ _ _))
        · have e92 : ((s[j].toNat : Int) == 92) = false := byte_ne h92
          have H92:=hid h92
          clear h92
          by_cases h32:s[j].toNat<32
          · have HW:Hid (textS (s.size-k) [] (s.data.toList.drop (k+1))= .bad 1 (s.size-j)):=by
              show _=_
              rw [H.out.2,Hd.out,textS_c _ _ H34.out H92.out,if_pos h32,drop_len]
              congr 1
              omega
            have h32':(s[j].toNat:Int)<32:=by omega
            go_wp2_with fail
            go_quiet (fail)
            go_wp2_with fail
            go_quiet (fail)
            go_wp2_with fail
            go_quiet (fail)
            go_wp2_with fail
            have T1:=fun n=>hid (H.out.1.drewN n)
            refine (FNew_any 1 _ _ _).mono ?_
            rintro e w1 ⟨f,rfl,hF,hlf,hb1⟩
            have R1:=(T1 _).out.res.keep (F:=fun _=>False) (Fr.quiet hb1) (fun h=>h)
            have HB:=hid hb1
            have HF:=hid hF
            obtain ⟨⟨r0,r1,r2,r3⟩,q0,q1,q2,q3⟩:=R1.cells
            clear hF R1 hb1
            go_wp2
            exact bodyPost_ret (v:= .tuple #[tokV 0 (bytesOf []) 0 0,faultV f]) (by simp [results,Tryz.results92,go_sem,r0,r1,r2,r3]) rfl (end_bad HW rfl (by omega) (Nat.lt_of_succ_lt (T1 _).out.sz) (T1 _).out.fr HF.out hlf HB.out (Fr.set4 _ _ _ _ _ _))
          · have HW:Hid (textS (s.size-k) [] (s.data.toList.drop (k+1))=textS (s.size-k) (out++[s[j]]) (s.data.toList.drop (j+1))):=by
              show _=_
              rw [H.out.2,Hd.out,textS_c _ _ H34.out H92.out,if_neg h32]
            have h32':¬(s[j].toNat:Int)<32:=by omega
            go_wp2_with fail
            go_quiet (fail)
            go_wp2_with fail
            go_quiet (fail)
            go_wp2_with fail
            go_quiet (fail)
            go_wp2_with fail
            have T1:=fun n=>hid (H.out.1.drewN n)
            refine (WriteByte_any _ _ (Lib.byteCells out) _ _ (T1 _).out.bld (by rw [byteCells_len];omega) (Nat.le_of_lt (T1 _).out.sz)).mono ?_
            intro e w1 hp
            obtain ⟨rfl,hT⟩:=(T1 _).out.write hp
            have T2:=hid hT
            obtain ⟨c0,c1,f1⟩:=hT.rdr.cells
            have hsz1:=hT.sz
            clear hT hp
            go_wp2
            go_roundg (s.size-(j+1))
            case measure=>omega
            case rel=>exact ⟨j+1,out++[s[j]],by omega,by omega,Nat.le_refl _,by simp;omega,by simpa [World.setCell] using hsz1,hid ⟨T2.out.set (j+1),HW.out⟩⟩
    · have hje : j = s.size := by omega
      have HW:Hid (textS (s.size-k) [] (s.data.toList.drop (k+1))= .bad 1 0):=by
        show _=_
        rw [H.out.2,List.drop_eq_nil_of_le (by rw [Array.length_toList];exact Nat.le_of_not_lt hlt),textS_0]
      have heq:((j:Int)==(s.size:Int))=true:=by simp;omega
      clear hje
      go_wp2_with fail
      go_quiet (fail)
      go_wp2_with fail
      go_quiet (fail)
      go_wp2_with fail
      have T1:=fun n=>hid (H.out.1.drewN n)
      refine (FNew_any 1 _ _ _).mono ?_
      rintro e w1 ⟨f,rfl,hF,hlf,hb1⟩
      have R1:=(T1 _).out.res.keep (F:=fun _=>False) (Fr.quiet hb1) (fun h=>h)
      have HB:=hid hb1
      have HF:=hid hF
      obtain ⟨⟨r0,r1,r2,r3⟩,q0,q1,q2,q3⟩:=R1.cells
      clear hF R1 hb1
      go_wp2
      exact bodyPost_ret (v:= .tuple #[tokV 0 (bytesOf []) 0 0,faultV f]) (by simp [results,Tryz.results92,go_sem,r0,r1,r2,r3]) rfl (end_bad HW rfl (by omega) (Nat.lt_of_succ_lt (T1 _).out.sz) (T1 _).out.fr HF.out hlf HB.out (Fr.set4 _ _ _ _ _ _))
end Go.Proofs.YtjlnpdpkobpkiaaGreatDoor
