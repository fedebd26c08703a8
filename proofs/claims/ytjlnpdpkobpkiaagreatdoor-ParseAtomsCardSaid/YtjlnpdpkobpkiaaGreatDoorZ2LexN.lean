import Derived.Test.YtjlnpdpkobpkiaaGreatDoorZ2LexU
set_option linter.unusedVariables false
set_option linter.unusedSimpArgs false
namespace Go.Proofs.YtjlnpdpkobpkiaaGreatDoor
open Go.RowKit
def signL:List (List UInt8):=[[58,45],[58,61],[33,61],[60,61],[62,61],[40],[41],[44],[46],[61],[60],[62],[43],[45],[42],[47],[37],[64]]
def signS (l:List UInt8):Out:=match signL.find? (fun q=>Lib.hasPrefix l q) with|some q=> .tok 5 q 0 l.length (l.drop q.length)|none=> .bad 1 l.length
def sgB (i:Nat):ByteArray:=bytesOf (signL.getD i [])
set_option maxRecDepth 100000 in
theorem sign_index {i:Nat} (h:i<18) (w:World):(Instr.index 232 (.agg #[.string ⟨#[58,45]⟩,.string ⟨#[58,61]⟩,.string ⟨#[33,61]⟩,.string ⟨#[60,61]⟩,.string ⟨#[62,61]⟩,.string ⟨#[40]⟩,.string ⟨#[41]⟩,.string ⟨#[44]⟩,.string ⟨#[46]⟩,.string ⟨#[61]⟩,.string ⟨#[60]⟩,.string ⟨#[62]⟩,.string ⟨#[43]⟩,.string ⟨#[45]⟩,.string ⟨#[42]⟩,.string ⟨#[47]⟩,.string ⟨#[37]⟩,.string ⟨#[64]⟩]) (.int .i64 (i:Int))).run Tryz.prog w= .ok (.string (sgB i)) w:=by
  have hc:i=0∨i=1∨i=2∨i=3∨i=4∨i=5∨i=6∨i=7∨i=8∨i=9∨i=10∨i=11∨i=12∨i=13∨i=14∨i=15∨i=16∨i=17:=by omega
  rcases hc with rfl|rfl|rfl|rfl|rfl|rfl|rfl|rfl|rfl|rfl|rfl|rfl|rfl|rfl|rfl|rfl|rfl|rfl
  all_goals rfl
theorem ext_end (s:ByteArray) (k:Nat):(s.extract k s.size).data.toList=s.data.toList.drop k:=by
  rw [ByteArray.data_extract,Array.toList_extract,List.extract_eq_take_drop,List.take_of_length_le]
  rw [drop_len]
  exact Nat.le_refl _
theorem end_sign {w wq:World} {b k:Nat} {s g:ByteArray} {o:Out} (ho:Hid (o= .tok 5 g.data.toList 0 (s.size-k) (s.data.toList.drop (k+g.size)))) (hle:k+g.size≤s.size) (hb:b<w.heap.size)
    (HQ:RdrAt wq b s k∧Fr (fun i=>i=b) w wq∧ResAt wq w.heap.size∧w.heap.size<wq.heap.size) {u0 u1 u2 u3:Value} {ob:Obj}:
    OutPost w b s o (.returned (.tuple #[tokV 5 g 0 k,.nilIface])) ((((((wq.setCell ⟨b,1,none⟩ (.int .i64 ((k:Int)+(g.size:Int)))).setCell ⟨w.heap.size,0,none⟩ u0).setCell ⟨w.heap.size,1,none⟩ u1).setCell ⟨w.heap.size,2,none⟩ u2).setCell ⟨w.heap.size,3,none⟩ u3).alloc ob):=by
  obtain ⟨h1,h2,h3,h4⟩:=HQ
  have F:Fr (fun i=>i=b) wq (wq.setCell ⟨b,1,none⟩ (.int .i64 ((k+g.size:Nat):Int))):=Fr.setCell wq (⟨b,1,none⟩:Addr) _
  have E:((k:Int)+(g.size:Int))=((k+g.size:Nat):Int):=by omega
  rw [E]
  refine end_tok (wo:=wq.setCell ⟨b,1,none⟩ (.int .i64 ((k+g.size:Nat):Int))) ho ?_ hle rfl hb (h1.set (k+g.size)) (h2.trans F (fun _ _ h=>h)) ((Fr.set4 _ _ _ _ _ _).alloc ob)
  have:bytesOf g.data.toList=g:=by cases g;simp [bytesOf]
  rw [this]
  simp
  omega
set_option maxHeartbeats 8000000 in
set_option maxRecDepth 100000 in
theorem sign_any {w:World} {b k:Nat} {s:ByteArray} (h:RdrAt w b s k) (hk:k≤s.size) (hs:s.size≤1073741824):
    Calls Tryz.prog 93 #[.pointer (some ⟨b,0,none⟩)] w (OutPost w b s (signS (s.data.toList.drop k))):=by
  have hlt0:=blk_lt h
  obtain ⟨c0,c1,f1⟩:=h.cells
  have H0:=hid h
  clear h
  go_enter Tryz.func93,Tryz.ntmps93
  go_wp2_with fail
  go_loopg [8] 18 (fun g t8 wr=>∃i:Nat,t8= .int .i64 (i:Int)∧i≤18∧18-i≤g∧w.heap.size<wr.heap.size∧Hid (RdrAt wr b s k∧Fr (fun i=>i=b) w wr∧ResAt wr w.heap.size∧signS (s.data.toList.drop k)=match (signL.drop i).find? (fun q=>Lib.hasPrefix (s.data.toList.drop k) q) with|some q=> .tok 5 q 0 (s.size-k) (s.data.toList.drop (k+q.length))|none=> .bad 1 (s.size-k)))
  case atStart=>
    have HE:signS (s.data.toList.drop k)=match (signL.drop 0).find? (fun q=>Lib.hasPrefix (s.data.toList.drop k) q) with|some q=> .tok 5 q 0 (s.size-k) (s.data.toList.drop (k+q.length))|none=> .bad 1 (s.size-k):=by
      rw [signS,drop_len]
      simp only [List.drop_zero,List.drop_drop]
    exact ⟨0,rfl,by omega,by omega,by simp,hid ⟨by rw [RdrAt,Lib.alloc_old _ _ _ hlt0];exact H0.out,(Fr.refl _ _).alloc _,heap_alloc_new w _,HE⟩⟩
  case round=>
    clear c0 c1 f1 H0
    obtain ⟨i,rfl,hi,hg,hsz,H⟩:=hrel
    obtain ⟨wo,rfl⟩:∃x:World,x=wr:=⟨_,rfl⟩
    obtain ⟨c0,c1,f1⟩:=H.out.1.cells
    obtain ⟨⟨r0,r1,r2,r3⟩,q0,q1,q2,q3⟩:=H.out.2.2.1.cells
    by_cases h18:i<18
    · have ix := sign_index h18
      obtain ⟨g,hg⟩:∃g,g=sgB i:=⟨_,rfl⟩
      rw [←hg] at ix
      have Hg:=hid hg
      have hd:signL.drop i=g.data.toList::signL.drop (i+1):=by
        rw [hg,List.drop_eq_getElem_cons (by simpa [signL] using h18),sgB,List.getD_eq_getElem?_getD,List.getElem?_eq_getElem (by simpa [signL] using h18)]
        simp
      have hgl:g.size≤2:=by
        rw [hg]
        have:∀i,i<18→(sgB i).size≤2:=by decide
        exact this i h18
      have Hd:=hid hd
      have hkz:(k:Int)≤(s.size:Int):=by omega
      clear hg hd
      cases hp:Lib.hasPrefix (s.data.toList.drop k) g.data.toList with
      |true=>
        have Hp:=hid hp
        clear hp
        go_wp2_with fail
        go_quiet ((go_at_call 115;refine (Tryz.strings_HasPrefix _ _ _).mono ?_;rintro e w' ⟨rfl,rfl⟩;rw [ext_end,Hp.out];exact ⟨rfl,_,rfl⟩))
        have HW:Hid (signS (s.data.toList.drop k)= .tok 5 g.data.toList 0 (s.size-k) (s.data.toList.drop (k+g.size))):=by
          show _=_
          rw [H.out.2.2.2,Hd.out,List.find?_cons,Hp.out]
          simp only [Array.length_toList]
          rfl
        have hle:k+g.size≤s.size:=by
          have h1:=Hp.out
          rw [Lib.hasPrefix,List.isPrefixOf_iff_prefix] at h1
          have h2:=h1.length_le
          rw [drop_len,Array.length_toList] at h2
          have:g.data.size=g.size:=rfl
          have:=hgl
          omega
        obtain ⟨wq,hwq⟩:∃wq,wq=wo.drewN nq:=⟨_,rfl⟩
        rw [←hwq]
        have HQ:Hid (RdrAt wq b s k∧Fr (fun i=>i=b) w wq∧ResAt wq w.heap.size∧w.heap.size<wq.heap.size):=by
          rw [hwq]
          exact ⟨H.out.1,H.out.2.1.drewN _,H.out.2.2.1,hsz⟩
        clear c0 c1 f1 r0 r1 r2 r3 q0 q1 q2 q3 hwq ix
        obtain ⟨c0,c1,f1⟩:=HQ.out.1.cells
        obtain ⟨⟨r0,r1,r2,r3⟩,q0,q1,q2,q3⟩:=HQ.out.2.2.1.cells
        have hsq:=HQ.out.2.2.2
        have hb2:b<wq.heap.size:=by omega
        go_wp2
        have x1:¬w.heap.size=wq.heap.size:=by omega
        have x2:¬b=w.heap.size:=by omega
        have x3:¬w.heap.size=b:=by omega
        exact bodyPost_ret (v:= .tuple #[tokV 5 g 0 k,.nilIface]) (by simp [results,Tryz.results93,go_sem,r0,r1,r2,r3,hsq,x1,x2,x3]) rfl (end_sign HW hle hlt0 HQ.out)
      |false=>
        have Hp:=hid hp
        clear hp
        have HW:Hid (signS (s.data.toList.drop k)=match (signL.drop (i+1)).find? (fun q=>Lib.hasPrefix (s.data.toList.drop k) q) with|some q=> .tok 5 q 0 (s.size-k) (s.data.toList.drop (k+q.length))|none=> .bad 1 (s.size-k)):=by
          show _=_
          rw [H.out.2.2.2,Hd.out,List.find?_cons,Hp.out]
        go_wp2_with fail
        go_quiet ((go_at_call 115;refine (Tryz.strings_HasPrefix _ _ _).mono ?_;rintro e w' ⟨rfl,rfl⟩;rw [ext_end,Hp.out];exact ⟨rfl,_,rfl⟩))
        go_wp2
        go_roundg (18-(i+1))
        case measure=>omega
        case rel=>exact ⟨i+1,rfl,by omega,Nat.le_refl _,hsz,hid ⟨H.out.1,H.out.2.1.drewN _,H.out.2.2.1,HW.out⟩⟩
    · have HW:Hid (signS (s.data.toList.drop k)= .bad 1 (s.size-k)):=by
        show _=_
        have e0:signL.drop i=[]:=List.drop_eq_nil_of_le (by simp [signL];omega)
        rw [H.out.2.2.2,e0]
        rfl
      go_wp2_with fail
      refine (FNew_any 1 _ _ _).mono ?_
      rintro e w1 ⟨f,rfl,hF,hlf,hb1⟩
      have R1:=H.out.2.2.1.keep (F:=fun _=>False) (Fr.quiet hb1) (fun h=>h)
      have HB:=hid hb1
      have HF:=hid hF
      obtain ⟨⟨r0,r1,r2,r3⟩,q0,q1,q2,q3⟩:=R1.cells
      clear hF R1 hb1
      go_wp2
      exact bodyPost_ret (v:= .tuple #[tokV 0 (bytesOf []) 0 0,faultV f]) (by simp [results,Tryz.results93,go_sem,r0,r1,r2,r3]) rfl (end_bad HW rfl (by omega) hsz H.out.2.1 HF.out hlf HB.out (Fr.set4 _ _ _ _ _ _))
end Go.Proofs.YtjlnpdpkobpkiaaGreatDoor
set_option linter.unusedVariables false
set_option linter.unusedSimpArgs false
namespace Go.Proofs.YtjlnpdpkobpkiaaGreatDoor
open Go.RowKit
def tokS:List UInt8→Out
  |[]=> .tok 0 [] 0 0 []
  |c::t=>
    if 97≤c.toNat∧c.toNat≤122 then wordS 1 (c::t)
    else if 65≤c.toNat∧c.toNat≤90 then wordS 2 (c::t)
    else if 48≤c.toNat∧c.toNat≤57 then numS (c::t).length 0 (c::t)
    else if c=34 then textS (c::t).length [] t
    else signS (c::t)
def nextS (l:List UInt8):Out:=tokS (skip false l)
theorem OutPost.shape {w w':World} {b:Nat} {s:ByteArray} {o:Out} {e:Ending} (h:OutPost w b s o e w'):∃k t n a err,e= .returned (.tuple #[tokV k t n a,err]):=by
  cases o with
  |tok k t n p r=>exact ⟨_,_,_,_,_,h.1⟩
  |bad tag p=>obtain ⟨f,what,he,_⟩:=h;exact ⟨_,_,_,_,_,he⟩
theorem OutPost.up {w wa w1 w2:World} {b:Nat} {s:ByteArray} {o:Out} {e:Ending} (h:OutPost wa b s o e w1) (hf:Fr (fun i=>i=b) w wa) (hsz:w.heap.size<wa.heap.size) (hb:b<w.heap.size)
    (h2:Fr (fun i=>i=w.heap.size) w1 w2):OutPost w b s o e w2:=by
  cases o with
  |tok k t n p r=>
    obtain ⟨he,j,hj,hr,hR,hF⟩:=h
    exact ⟨he,j,hj,hr,hR.keep h2 (show ¬b=_ by omega),(hf.trans hF (fun _ _ h=>h)).trans h2 (fun i hi h=>by omega)⟩
  |bad tag p=>
    obtain ⟨f,what,he,hlf,hA,hF⟩:=h
    exact ⟨f,what,he,by omega,hA.keep h2 (show ¬f=_ by omega),(hf.trans hF (fun _ _ h=>h)).trans h2 (fun i hi h=>by omega)⟩
theorem OutPost.fr {w w':World} {b:Nat} {s:ByteArray} {o:Out} {e:Ending} (h:OutPost w b s o e w'):Fr (fun i=>i=b) w w':=by
  cases o with
  |tok k t n p r=>exact h.2.choose_spec.2.2.2
  |bad tag p=>obtain ⟨f,what,he,hlf,hA,hF⟩:=h;exact hF
set_option maxHeartbeats 8000000 in
set_option maxRecDepth 100000 in
theorem next_any {w:World} {b k:Nat} {s:ByteArray} (h:RdrAt w b s k) (hk:k≤s.size) (hs:s.size≤1073741824):
    Calls Tryz.prog 55 #[.pointer (some ⟨b,0,none⟩)] w (OutPost w b s (nextS (s.data.toList.drop k))):=by
  have hlt0:=blk_lt h
  have h0:RdrAt (w.alloc (.cells #[.int .i64 0,.string ⟨#[]⟩,.int .u64 0,.int .i64 0] 68)) b s k:=(Lib.alloc_old w _ b hlt0).trans h
  have HB:=hid (blanks_any h0 hk hs)
  have HR:Hid (ResAt (w.alloc (.cells #[.int .i64 0,.string ⟨#[]⟩,.int .u64 0,.int .i64 0] 68)) w.heap.size):=heap_alloc_new w _
  clear h h0
  go_enter Tryz.func55,Tryz.ntmps55
  go_wp2_with fail
  refine HB.out.mono ?_
  rintro e wb ⟨j,rfl,hj,hdrop,hR,hF⟩
  have HQ:Hid (RdrAt wb b s j∧Fr (fun i=>i=b) w wb∧ResAt wb w.heap.size∧w.heap.size<wb.heap.size):=
    ⟨hR,((Fr.refl _ _).alloc _).trans hF (fun _ _ h=>h),HR.out.keep (F:=fun i=>i=b) hF (show ¬w.heap.size=b by omega),by have:=hF.size;simp at this;omega⟩
  have HD:Hid (nextS (s.data.toList.drop k)=tokS (s.data.toList.drop j)):=by
    show _=_
    rw [nextS,hdrop]
  clear hR hF hdrop HB HR
  obtain ⟨c0,c1,f1⟩:=HQ.out.1.cells
  obtain ⟨⟨r0,r1,r2,r3⟩,q0,q1,q2,q3⟩:=HQ.out.2.2.1.cells
  by_cases hlt:j<s.size
  · have hne : ((j : Int) == (s.size : Int)) = false := by simp; omega
    have Hd:=hid (drop_at hlt)
    have hcn:=s[j].toNat_lt
    by_cases hA:97≤s[j].toNat∧s[j].toNat≤122
    · have HW:Hid (nextS (s.data.toList.drop k)=wordS 1 (s.data.toList.drop j)):=by
        show _=_
        rw [HD.out,Hd.out,tokS,if_pos hA]
      have X:=hid hA
      clear hA
      go_wp2_with fail
      go_quiet (fail)
      go_wp2_with fail
      go_quiet (fail)
      go_wp2_with fail
      refine (between_true (by have:=X.out;omega) (by have:=X.out;omega)).mono ?_
      rintro e w' ⟨rfl,rfl⟩
      go_wp2_with fail
      refine (word_any (kd:=1) (show RdrAt (wb.drewN _) b s j from HQ.out.1) hj hs).mono ?_
      intro e w1 hp
      obtain ⟨tk,tt,tn,ta,er,rfl⟩:=hp.shape
      have HP:=hid hp
      have hfr:=hp.fr
      have R1:=ResAt.keep (F:=fun i=>i=b) (w:=wb.drewN _) HQ.out.2.2.1 hfr (show ¬w.heap.size=b by omega)
      clear r0 r1 r2 r3 q0 q1 q2 q3
      obtain ⟨⟨r0,r1,r2,r3⟩,q0,q1,q2,q3⟩:=R1.cells
      clear hp hfr R1
      go_wp2
      exact bodyPost_ret (v:= .tuple #[tokV tk tt tn ta,er]) (by simp [results,Tryz.results55,go_sem,r0,r1,r2,r3]) rfl (by rw [HW.out];exact HP.out.up (HQ.out.2.1.drewN _) HQ.out.2.2.2 hlt0 (Fr.set4 _ _ _ _ _ _))
    · by_cases hB : 65 ≤ s[j].toNat ∧ s[j].toNat ≤ 90
      · have HW:Hid (nextS (s.data.toList.drop k)=wordS 2 (s.data.toList.drop j)):=by
          show _=_
          rw [HD.out,Hd.out,tokS,if_neg hA,if_pos hB]
        have X:=hid hB
        have Y:=hid hA
        clear hA hB
        go_wp2_with fail
        go_quiet (fail)
        go_wp2_with fail
        go_quiet (fail)
        go_wp2_with fail
        refine (between_false (by have:=Y.out;omega)).mono ?_
        rintro e w' ⟨rfl,rfl⟩
        go_wp2_with fail
        refine (between_true (by have:=X.out;omega) (by have:=X.out;omega)).mono ?_
        rintro e w' ⟨rfl,rfl⟩
        go_wp2_with fail
        refine (word_any (kd:=2) (show RdrAt (wb.drewN _) b s j from HQ.out.1) hj hs).mono ?_
        intro e w1 hp
        obtain ⟨tk,tt,tn,ta,er,rfl⟩:=hp.shape
        have HP:=hid hp
        have hfr:=hp.fr
        have R1:=ResAt.keep (F:=fun i=>i=b) (w:=wb.drewN _) HQ.out.2.2.1 hfr (show ¬w.heap.size=b by omega)
        clear r0 r1 r2 r3 q0 q1 q2 q3
        obtain ⟨⟨r0,r1,r2,r3⟩,q0,q1,q2,q3⟩:=R1.cells
        clear hp hfr R1
        go_wp2
        exact bodyPost_ret (v:= .tuple #[tokV tk tt tn ta,er]) (by simp [results,Tryz.results55,go_sem,r0,r1,r2,r3]) rfl (by rw [HW.out];exact HP.out.up (HQ.out.2.1.drewN _) HQ.out.2.2.2 hlt0 (Fr.set4 _ _ _ _ _ _))
      · by_cases hC : 48 ≤ s[j].toNat ∧ s[j].toNat ≤ 57
        · have HW:Hid (nextS (s.data.toList.drop k)=numS (s.size-j) 0 (s.data.toList.drop j)):=by
            show _=_
            rw [HD.out,Hd.out,tokS,if_neg hA,if_neg hB,if_pos hC,←Hd.out,drop_len]
          have X:=hid hC
          have Y:=hid hA
          have Z:=hid hB
          clear hA hB hC
          go_wp2_with fail
          go_quiet (fail)
          go_wp2_with fail
          go_quiet (fail)
          go_wp2_with fail
          refine (between_false (by have:=Y.out;omega)).mono ?_
          rintro e w' ⟨rfl,rfl⟩
          go_wp2_with fail
          refine (between_false (by have:=Z.out;omega)).mono ?_
          rintro e w' ⟨rfl,rfl⟩
          go_wp2_with fail
          refine (between_true (by have:=X.out;omega) (by have:=X.out;omega)).mono ?_
          rintro e w' ⟨rfl,rfl⟩
          go_wp2_with fail
          refine (number_any (show RdrAt (wb.drewN _) b s j from HQ.out.1) hj hs).mono ?_
          intro e w1 hp
          obtain ⟨tk,tt,tn,ta,er,rfl⟩:=hp.shape
          have HP:=hid hp
          have hfr:=hp.fr
          have R1:=ResAt.keep (F:=fun i=>i=b) (w:=wb.drewN _) HQ.out.2.2.1 hfr (show ¬w.heap.size=b by omega)
          clear r0 r1 r2 r3 q0 q1 q2 q3
          obtain ⟨⟨r0,r1,r2,r3⟩,q0,q1,q2,q3⟩:=R1.cells
          clear hp hfr R1
          go_wp2
          exact bodyPost_ret (v:= .tuple #[tokV tk tt tn ta,er]) (by simp [results,Tryz.results55,go_sem,r0,r1,r2,r3]) rfl (by rw [HW.out];exact HP.out.up (HQ.out.2.1.drewN _) HQ.out.2.2.2 hlt0 (Fr.set4 _ _ _ _ _ _))
        · have X := hid hA
          have Y:=hid hB
          have Z:=hid hC
          by_cases h34:s[j]=34
          · have HW:Hid (nextS (s.data.toList.drop k)=textS (s.size-j) [] (s.data.toList.drop (j+1))):=by
              show _=_
              rw [HD.out,Hd.out,tokS,if_neg hA,if_neg hB,if_neg hC,if_pos h34,←Hd.out,drop_len]
            have e34:((s[j].toNat:Int)==34)=true:=byte_eq h34
            clear hA hB hC h34
            go_wp2_with fail
            go_quiet (fail)
            go_wp2_with fail
            go_quiet (fail)
            go_wp2_with fail
            refine (between_false (by have:=X.out;omega)).mono ?_
            rintro e w' ⟨rfl,rfl⟩
            go_wp2_with fail
            refine (between_false (by have:=Y.out;omega)).mono ?_
            rintro e w' ⟨rfl,rfl⟩
            go_wp2_with fail
            refine (between_false (by have:=Z.out;omega)).mono ?_
            rintro e w' ⟨rfl,rfl⟩
            go_wp2_with fail
            refine (text_any (show RdrAt (wb.drewN _) b s j from HQ.out.1) hlt hs).mono ?_
            intro e w1 hp
            obtain ⟨tk,tt,tn,ta,er,rfl⟩:=hp.shape
            have HP:=hid hp
            have hfr:=hp.fr
            have R1:=ResAt.keep (F:=fun i=>i=b) (w:=wb.drewN _) HQ.out.2.2.1 hfr (show ¬w.heap.size=b by omega)
            clear r0 r1 r2 r3 q0 q1 q2 q3
            obtain ⟨⟨r0,r1,r2,r3⟩,q0,q1,q2,q3⟩:=R1.cells
            clear hp hfr R1
            go_wp2
            exact bodyPost_ret (v:= .tuple #[tokV tk tt tn ta,er]) (by simp [results,Tryz.results55,go_sem,r0,r1,r2,r3]) rfl (by rw [HW.out];exact HP.out.up (HQ.out.2.1.drewN _) HQ.out.2.2.2 hlt0 (Fr.set4 _ _ _ _ _ _))
          · have HW:Hid (nextS (s.data.toList.drop k)=signS (s.data.toList.drop j)):=by
              show _=_
              rw [HD.out,Hd.out,tokS,if_neg hA,if_neg hB,if_neg hC,if_neg h34]
            have e34:((s[j].toNat:Int)==34)=false:=byte_ne h34
            clear hA hB hC h34
            go_wp2_with fail
            go_quiet (fail)
            go_wp2_with fail
            go_quiet (fail)
            go_wp2_with fail
            refine (between_false (by have:=X.out;omega)).mono ?_
            rintro e w' ⟨rfl,rfl⟩
            go_wp2_with fail
            refine (between_false (by have:=Y.out;omega)).mono ?_
            rintro e w' ⟨rfl,rfl⟩
            go_wp2_with fail
            refine (between_false (by have:=Z.out;omega)).mono ?_
            rintro e w' ⟨rfl,rfl⟩
            go_wp2_with fail
            refine (sign_any (show RdrAt (wb.drewN _) b s j from HQ.out.1) hj hs).mono ?_
            intro e w1 hp
            obtain ⟨tk,tt,tn,ta,er,rfl⟩:=hp.shape
            have HP:=hid hp
            have hfr:=hp.fr
            have R1:=ResAt.keep (F:=fun i=>i=b) (w:=wb.drewN _) HQ.out.2.2.1 hfr (show ¬w.heap.size=b by omega)
            clear r0 r1 r2 r3 q0 q1 q2 q3
            obtain ⟨⟨r0,r1,r2,r3⟩,q0,q1,q2,q3⟩:=R1.cells
            clear hp hfr R1
            go_wp2
            exact bodyPost_ret (v:= .tuple #[tokV tk tt tn ta,er]) (by simp [results,Tryz.results55,go_sem,r0,r1,r2,r3]) rfl (by rw [HW.out];exact HP.out.up (HQ.out.2.1.drewN _) HQ.out.2.2.2 hlt0 (Fr.set4 _ _ _ _ _ _))
  · have hne : ((j : Int) == (s.size : Int)) = true := by simp; omega
    have HW:Hid (nextS (s.data.toList.drop k)= .tok 0 [] 0 0 (s.data.toList.drop j)):=by
      show _=_
      rw [HD.out,List.drop_eq_nil_of_le (by rw [Array.length_toList];exact Nat.le_of_not_lt hlt),tokS]
    have hje:j=s.size:=by omega
    go_wp2_with fail
    go_quiet (fail)
    go_wp2
    exact bodyPost_ret (v:= .tuple #[tokV 0 (bytesOf []) 0 s.size,.nilIface]) (by simp [results,Tryz.results55,go_sem,r0,r1,r2,r3]) rfl (end_tok (wo:=wb.drewN _) HW (by simp) hj rfl hlt0 HQ.out.1 (HQ.out.2.1.drewN _) (Fr.set4 _ _ _ _ _ _))
end Go.Proofs.YtjlnpdpkobpkiaaGreatDoor
