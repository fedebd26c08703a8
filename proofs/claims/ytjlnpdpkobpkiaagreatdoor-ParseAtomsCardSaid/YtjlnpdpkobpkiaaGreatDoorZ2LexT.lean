import Derived.Test.YtjlnpdpkobpkiaaGreatDoorZ2LexA
import Derived.IntWalk
import Derived.Test.YtjlnpdpkobpkiaaGreatDoorZ2Build
set_option linter.unusedVariables false
set_option linter.unusedSimpArgs false
namespace Go.Proofs.YtjlnpdpkobpkiaaGreatDoor
open Go.RowKit
inductive Out where
  |tok (k:Nat) (text:List UInt8) (num start:Nat) (rest:List UInt8)
  |bad (tag place:Nat)
abbrev tokV (k:Int) (t:ByteArray) (n at_:Int):Value:= .agg #[.int .i64 k,.string t,.int .u64 n,.int .i64 at_]
abbrev bytesOf (l:List UInt8):ByteArray:=⟨l.toArray⟩
def OutPost (w:World) (b:Nat) (s:ByteArray) (o:Out) (e:Ending) (w':World):Prop:=
  match o with
  | .tok k t n p r=>e= .returned (.tuple #[tokV k (bytesOf t) n (s.size-p:Nat),.nilIface])∧∃j,j≤s.size∧s.data.toList.drop j=r∧RdrAt w' b s j∧Fr (fun i=>i=b) w w'
  | .bad tag p=>∃f what,e= .returned (.tuple #[tokV 0 (bytesOf []) 0 0,faultV f])∧w.heap.size≤f∧FaultAt w' f tag (s.size-p:Nat) what .nilIface∧Fr (fun i=>i=b) w w'
theorem inner_yes {c:UInt8} (h:innerB c=true) (w:World) (n:Nat):Calls Tryz.prog 112 #[.int .u8 (c.toNat:Int)] (w.drewN n) fun e w''=>e= .returned (.bool true)∧∃m,w''=w.drewN m:=
  Calls.quiet_of_same ((inner_any c _).mono (by rintro e w' ⟨rfl,rfl⟩;exact ⟨by rw [h],rfl⟩))
theorem inner_no {c:UInt8} (h:innerB c=false) (w:World) (n:Nat):Calls Tryz.prog 112 #[.int .u8 (c.toNat:Int)] (w.drewN n) fun e w''=>e= .returned (.bool false)∧∃m,w''=w.drewN m:=
  Calls.quiet_of_same ((inner_any c _).mono (by rintro e w' ⟨rfl,rfl⟩;exact ⟨by rw [h],rfl⟩))
theorem between_yes {b lo hi:Int} (h1:lo≤b) (h2:b≤hi) (w:World) (n:Nat):Calls Tryz.prog 89 #[.int .u8 b,.int .u8 lo,.int .u8 hi] (w.drewN n) fun e w''=>e= .returned (.bool true)∧∃m,w''=w.drewN m:=
  Calls.quiet_of_same ((between_true h1 h2).mono (by rintro e w' ⟨rfl,rfl⟩;exact ⟨rfl,rfl⟩))
theorem between_no {b lo hi:Int} (h:b<lo∨hi<b) (w:World) (n:Nat):Calls Tryz.prog 89 #[.int .u8 b,.int .u8 lo,.int .u8 hi] (w.drewN n) fun e w''=>e= .returned (.bool false)∧∃m,w''=w.drewN m:=
  Calls.quiet_of_same ((between_false h).mono (by rintro e w' ⟨rfl,rfl⟩;exact ⟨rfl,rfl⟩))
theorem extract_is (s:ByteArray) {i j:Nat} (hij:i≤j) (hj:j≤s.size):s.extract i j=bytesOf ((s.data.toList.drop i).take (j-i)):=by
  have h:(s.extract i j).data.toList=(s.data.toList.drop i).take (j-i):=by
    rw [ByteArray.data_extract,Array.toList_extract,List.extract_eq_take_drop]
  rw [←h]
theorem drop_len {s:ByteArray} {k:Nat}:(s.data.toList.drop k).length=s.size-k:=by
  rw [List.length_drop,Array.length_toList];rfl
def ResAt (w:World) (R:Nat):Prop:=w.heap[R]? =some (.cells #[.int .i64 0,.string ⟨#[]⟩,.int .u64 0,.int .i64 0] 68 (0,0))
theorem ResAt.cells {w:World} {R:Nat} (h:ResAt w R):(w.cell? ⟨R,0,none⟩=some (.int .i64 0)∧w.cell? ⟨R,1,none⟩=some (.string ⟨#[]⟩)∧w.cell? ⟨R,2,none⟩=some (.int .u64 0)∧w.cell? ⟨R,3,none⟩=some (.int .i64 0)) ∧
    w.frozen? ⟨R,0,none⟩=false∧w.frozen? ⟨R,1,none⟩=false∧w.frozen? ⟨R,2,none⟩=false∧w.frozen? ⟨R,3,none⟩=false:=
  ⟨⟨by rw [cell_blk h];rfl,by rw [cell_blk h];rfl,by rw [cell_blk h];rfl,by rw [cell_blk h];rfl⟩,frozen_blk h 0,frozen_blk h 1,frozen_blk h 2,frozen_blk h 3⟩
theorem ResAt.keep {F:Nat→Prop} {w w':World} {R:Nat} (h:ResAt w R) (hf:Fr F w w') (hb:¬F R):ResAt w' R:=(hf.block R (blk_lt h) hb).trans h
theorem Fr.quiet {w w':World} (h:Below w.heap.size w w'):Fr (fun _=>False) w w':=(Fr.of_below h h.size).mono (fun i hi h=>by omega)
theorem Fr.set4 (w:World) (R:Nat) (u0 u1 u2 u3:Value):Fr (fun i=>i=R) w ((((w.setCell ⟨R,0,none⟩ u0).setCell ⟨R,1,none⟩ u1).setCell ⟨R,2,none⟩ u2).setCell ⟨R,3,none⟩ u3):=
  (((Fr.setCell w ⟨R,0,none⟩ u0).trans (Fr.setCell _ ⟨R,1,none⟩ u1) (fun _ _ h=>h)).trans (Fr.setCell _ ⟨R,2,none⟩ u2) (fun _ _ h=>h)).trans (Fr.setCell _ ⟨R,3,none⟩ u3) (fun _ _ h=>h)
theorem FaultAt.keep {F:Nat→Prop} {w w':World} {b:Nat} {tag at_:Int} {what:ByteArray} {err:Value} (h:FaultAt w b tag at_ what err) (hf:Fr F w w') (hb:¬F b):FaultAt w' b tag at_ what err:=(hf.block b (blk_lt h) hb).trans h
theorem end_tok {w wo w2:World} {b j n:Nat} {s:ByteArray} {o:Out} {k p:Nat} {t:List UInt8} {r:List UInt8} {v:Value} (ho:Hid (o= .tok k t n p r)) (hv:v= .tuple #[tokV k (bytesOf t) n (s.size-p:Nat),.nilIface])
    (hj:j≤s.size) (hr:s.data.toList.drop j=r) (hb:b<w.heap.size) (hR:RdrAt wo b s j) (hf:Fr (fun i=>i=b) w wo) (h2:Fr (fun i=>i=w.heap.size) wo w2):OutPost w b s o (.returned v) w2:=by
  rw [ho.out]
  exact ⟨by rw [hv],j,hj,hr,hR.keep h2 (by omega),hf.trans h2 (fun i hi h=>by omega)⟩
theorem end_bad {w wo w1 w2:World} {b f:Nat} {s:ByteArray} {o:Out} {tag p:Nat} {v:Value} {what:ByteArray} {at_:Int} (ho:Hid (o= .bad tag p)) (hv:v= .tuple #[tokV 0 (bytesOf []) 0 0,faultV f]) (hat:at_=(s.size-p:Nat))
    (hsz:w.heap.size<wo.heap.size) (hf:Fr (fun i=>i=b) w wo) (hF:FaultAt w1 f tag at_ what .nilIface) (hlt:wo.heap.size≤f) (hb1:Below wo.heap.size wo w1) (h2:Fr (fun i=>i=w.heap.size) w1 w2):OutPost w b s o (.returned v) w2:=by
  rw [ho.out]
  subst hat
  exact ⟨f,what,by rw [hv],by omega,hF.keep h2 (by omega),(hf.trans (Fr.quiet hb1) (fun i hi h=>h.elim)).trans h2 (fun i hi h=>by omega)⟩
def wordS (k:Nat) (l:List UInt8):Out:=if 40<(l.takeWhile innerB).length then .bad 3 l.length else .tok k (l.takeWhile innerB) 0 l.length (l.dropWhile innerB)
set_option maxHeartbeats 4000000 in
theorem word_any {w:World} {b k kd:Nat} {s:ByteArray} (h:RdrAt w b s k) (hk:k≤s.size) (hs:s.size≤1073741824):
    Calls Tryz.prog 90 #[.pointer (some ⟨b,0,none⟩),.int .i64 (kd:Int)] w (OutPost w b s (wordS kd (s.data.toList.drop k))):=by
  have hlt0:=blk_lt h
  have hb0:RdrAt (w.alloc (.cells #[.int .i64 0,.string ⟨#[]⟩,.int .u64 0,.int .i64 0] 68)) b s k:=(Lib.alloc_old w _ b hlt0).trans h
  obtain ⟨c0,c1,f1⟩:=hb0.cells
  have H0:=hid hb0
  have HR:Hid (ResAt (w.alloc (.cells #[.int .i64 0,.string ⟨#[]⟩,.int .u64 0,.int .i64 0] 68)) w.heap.size):=heap_alloc_new w _
  clear hb0 h
  go_enter Tryz.func90,Tryz.ntmps90
  go_wp2_with fail
  go_loopg [11] s.size (fun g _ wr=>∃j:Nat,k≤j∧j≤s.size∧s.size-j≤g∧w.heap.size<wr.heap.size∧Hid (RdrAt wr b s j∧(s.data.toList.drop k).takeWhile innerB=(s.data.toList.drop k).take (j-k)++(s.data.toList.drop j).takeWhile innerB∧(s.data.toList.drop k).dropWhile innerB=(s.data.toList.drop j).dropWhile innerB∧Fr (fun i=>i=b) w wr∧ResAt wr w.heap.size))
  case atStart=>exact ⟨k,Nat.le_refl _,hk,by omega,by simp,hid ⟨H0.out,by simp,rfl,(Fr.refl _ _).alloc _,HR.out⟩⟩
  case round=>
    clear c0 c1 f1 H0 HR
    obtain ⟨j,hkj,hj,hg,hsz,H⟩:=hrel
    obtain ⟨wo,rfl⟩:∃x:World,x=wr:=⟨_,rfl⟩
    obtain ⟨c0,c1,f1⟩:=H.out.1.cells
    by_cases hin:∃h:j<s.size,innerB s[j]=true
    · obtain ⟨hlt, hin⟩ := hin
      have Hd:=hid (drop_at hlt)
      have Hin:=hid hin
      clear hin
      go_wp2_with fail
      go_quiet ((go_at_call 112;exact inner_yes Hin.out _ _))
      go_wp2
      go_roundg (s.size-(j+1))
      case measure=>omega
      case rel=>
        obtain ⟨g1,g2,g3,g4,g5⟩:=H.out
        refine ⟨j+1,by omega,by omega,Nat.le_refl _,by simpa [World.setCell] using hsz,hid ⟨(g1.drewN _).set (j+1),?_,?_,(g4.drewN _).trans (Fr.setCell _ _ _) (fun _ _ h=>h),ResAt.keep (F:=fun i=>i=b) (w:=wo.drewN nq) g5 (Fr.setCell _ (⟨b,1,none⟩:Addr) _) (show ¬w.heap.size=b by omega)⟩⟩
        · rw [g2, Hd.out, List.takeWhile_cons, if_pos Hin.out]
          have:(s.data.toList.drop k).take (j+1-k)=(s.data.toList.drop k).take (j-k)++[s[j]]:=by
            rw [show j+1-k=(j-k)+1 by omega,List.take_add_one,List.getElem?_drop,show k+(j-k)=j by omega]
            have:s.data.toList[j]? =some s[j]:=by
              rw [Array.getElem?_toList,Array.getElem?_eq_getElem (by exact hlt)];rfl
            rw [this]
            rfl
          rw [this]
          simp
        · rw [g3,Hd.out,List.dropWhile_cons,if_pos Hin.out]
    · have Hst:Hid ((s.data.toList.drop j).takeWhile innerB=[]∧(s.data.toList.drop j).dropWhile innerB=s.data.toList.drop j):=by
        by_cases hlt:j<s.size
        · rw [drop_at hlt, List.takeWhile_cons, List.dropWhile_cons, if_neg (fun h => hin ⟨hlt, h⟩), if_neg (fun h => hin ⟨hlt, h⟩)]
          exact ⟨rfl,rfl⟩
        · rw [List.drop_eq_nil_of_le (by rw [Array.length_toList]; exact Nat.le_of_not_lt hlt)]
          exact ⟨rfl,rfl⟩
      have hway:(j<s.size∧∃h:j<s.size,innerB s[j]=false)∨¬j<s.size:=by
        by_cases hlt:j<s.size
        · exact .inl ⟨hlt,hlt,by simpa using fun h=>hin ⟨hlt,h⟩⟩
        · exact .inr hlt
      obtain ⟨⟨r0,r1,r2,r3⟩,q0,q1,q2,q3⟩:=H.out.2.2.2.2.cells
      have Hl:Hid ((s.data.toList.drop k).takeWhile innerB=(s.data.toList.drop k).take (j-k)∧((s.data.toList.drop k).takeWhile innerB).length=j-k):=by
        have:(s.data.toList.drop k).takeWhile innerB=(s.data.toList.drop k).take (j-k):=by rw [H.out.2.1,Hst.out.1,List.append_nil]
        refine ⟨this,?_⟩
        rw [this,List.length_take,drop_len]
        omega
      clear hin
      by_cases hm:40<j-k
      · have HW:Hid (wordS kd (s.data.toList.drop k)= .bad 3 (s.size-k)):=by
          show _=_
          rw [wordS,Hl.out.2,if_pos hm,drop_len]
        have hm':40<(j:Int)-(k:Int):=by omega
        clear hm
        rcases hway with ⟨hlt,_,hin⟩|hlt
        · have Hin := hid hin
          clear hin
          go_wp2_with fail
          go_quiet ((go_at_call 112;exact inner_no Hin.out _ _))
          go_wp2_with fail
          refine (FNew_any 3 _ _ _).mono ?_
          rintro e w1 ⟨f,rfl,hF,hlf,hb1⟩
          have R1:=(show ResAt (wo.drewN nq) w.heap.size from H.out.2.2.2.2).keep (F:=fun _=>False) (Fr.quiet hb1) (fun h=>h)
          have HB:=hid hb1
          have HF:=hid hF
          obtain ⟨⟨r0,r1,r2,r3⟩,q0,q1,q2,q3⟩:=R1.cells
          clear hF R1 hb1
          go_wp2
          exact bodyPost_ret (v:= .tuple #[tokV 0 (bytesOf []) 0 0,faultV f]) (by simp [results,Tryz.results90,go_sem,r0,r1,r2,r3]) rfl (end_bad (wo:=wo.drewN _) HW rfl (by omega) hsz (H.out.2.2.2.1.drewN _) HF.out hlf HB.out (Fr.set4 _ _ _ _ _ _))
        · go_wp2_with fail
          go_quiet (fail)
          go_wp2_with fail
          refine (FNew_any 3 _ _ _).mono ?_
          rintro e w1 ⟨f,rfl,hF,hlf,hb1⟩
          have R1:=(show ResAt (wo.drewN nq) w.heap.size from H.out.2.2.2.2).keep (F:=fun _=>False) (Fr.quiet hb1) (fun h=>h)
          have HB:=hid hb1
          have HF:=hid hF
          obtain ⟨⟨r0,r1,r2,r3⟩,q0,q1,q2,q3⟩:=R1.cells
          clear hF R1 hb1
          go_wp2
          exact bodyPost_ret (v:= .tuple #[tokV 0 (bytesOf []) 0 0,faultV f]) (by simp [results,Tryz.results90,go_sem,r0,r1,r2,r3]) rfl (end_bad (wo:=wo.drewN _) HW rfl (by omega) hsz (H.out.2.2.2.1.drewN _) HF.out hlf HB.out (Fr.set4 _ _ _ _ _ _))
      · have HW:Hid (wordS kd (s.data.toList.drop k)= .tok kd ((s.data.toList.drop k).take (j-k)) 0 (s.size-k) (s.data.toList.drop j)):=by
          show _=_
          rw [wordS,Hl.out.2,if_neg hm,drop_len,Hl.out.1,H.out.2.2.1,Hst.out.2]
        have hm':¬40<(j:Int)-(k:Int):=by omega
        clear hm
        rcases hway with ⟨hlt,_,hin⟩|hlt
        · have Hin := hid hin
          clear hin
          go_wp2_with fail
          go_quiet ((go_at_call 112;exact inner_no Hin.out _ _))
          go_wp2_with fail
          go_region
          go_wp2
          exact bodyPost_ret (v:= .tuple #[tokV kd (s.extract k j) 0 k,.nilIface]) (by simp [results,Tryz.results90,go_sem,r0,r1,r2,r3]) rfl (end_tok (wo:=wo.drewN _) HW (by rw [extract_is s hkj hj];simp;omega) hj rfl hlt0 H.out.1 (H.out.2.2.2.1.drewN _) (Fr.set4 _ _ _ _ _ _))
        · go_wp2_with fail
          go_quiet (fail)
          go_wp2_with fail
          go_region
          go_wp2
          exact bodyPost_ret (v:= .tuple #[tokV kd (s.extract k j) 0 k,.nilIface]) (by simp [results,Tryz.results90,go_sem,r0,r1,r2,r3]) rfl (end_tok (wo:=wo.drewN _) HW (by rw [extract_is s hkj hj];simp;omega) hj rfl hlt0 H.out.1 (H.out.2.2.2.1.drewN _) (Fr.set4 _ _ _ _ _ _))
end Go.Proofs.YtjlnpdpkobpkiaaGreatDoor
set_option linter.unusedVariables false
set_option linter.unusedSimpArgs false
namespace Go.Proofs.YtjlnpdpkobpkiaaGreatDoor
open Go.RowKit
def digB (c:UInt8):Bool:=decide (48≤c.toNat) && decide (c.toNat≤57)
def numS (p:Nat):Nat→List UInt8→Out
  |acc,[]=> .tok 3 [] acc p []
  |acc,c::t=>if digB c then (if (9223372036854775808-(c.toNat-48)) / 10<acc then .bad 1 p else numS p (10*acc+(c.toNat-48)) t) else .tok 3 [] acc p (c::t)
def NumAt (w:World) (T k n:Nat):Prop:=w.heap[T]? =some (.cells #[.int .i64 3,.string ⟨#[]⟩,.int .u64 (n:Int),.int .i64 (k:Int)] 68 (0,0))
theorem NumAt.cells {w:World} {T k n:Nat} (h:NumAt w T k n):(w.cell? ⟨T,0,none⟩=some (.int .i64 3)∧w.cell? ⟨T,1,none⟩=some (.string ⟨#[]⟩)∧w.cell? ⟨T,2,none⟩=some (.int .u64 (n:Int))∧w.cell? ⟨T,3,none⟩=some (.int .i64 (k:Int)))∧w.frozen? ⟨T,2,none⟩=false:=
  ⟨⟨by rw [cell_blk h];rfl,by rw [cell_blk h];rfl,by rw [cell_blk h];rfl,by rw [cell_blk h];rfl⟩,frozen_blk h 2⟩
theorem NumAt.keep {F:Nat→Prop} {w w':World} {T k n:Nat} (h:NumAt w T k n) (hf:Fr F w w') (hb:¬F T):NumAt w' T k n:=(hf.block T (blk_lt h) hb).trans h
theorem NumAt.set {w:World} {T k n:Nat} (h:NumAt w T k n) (m:Nat):NumAt (w.setCell ⟨T,2,none⟩ (.int .u64 (m:Int))) T k m:=by
  have:=blk_set (o:=2) h (.int .u64 (m:Int))
  simpa [NumAt] using this
set_option maxHeartbeats 4000000 in
theorem number_any {w:World} {b k:Nat} {s:ByteArray} (h:RdrAt w b s k) (hk:k≤s.size) (hs:s.size≤1073741824):
    Calls Tryz.prog 91 #[.pointer (some ⟨b,0,none⟩)] w (OutPost w b s (numS (s.size-k) 0 (s.data.toList.drop k))):=by
  have hlt0:=blk_lt h
  obtain ⟨c0,c1,f1⟩:=h.cells
  have H0:=hid h
  clear h
  go_enter Tryz.func91,Tryz.ntmps91
  go_wp2_with fail
  go_loopg [11] s.size (fun g _ wr=>∃j acc:Nat,k≤j∧j≤s.size∧s.size-j≤g∧acc≤9223372036854775808∧w.heap.size+1<wr.heap.size∧Hid (RdrAt wr b s j∧numS (s.size-k) 0 (s.data.toList.drop k)=numS (s.size-k) acc (s.data.toList.drop j)∧Fr (fun i=>i=b) w wr∧ResAt wr w.heap.size∧NumAt wr (w.heap.size+1) k acc))
  case atStart=>
    have A1:=(Fr.refl (fun i=>i=b) w).alloc (.cells #[.int .i64 0,.string ⟨#[]⟩,.int .u64 0,.int .i64 0] 68)
    have A2:=A1.alloc (.cells #[.int .i64 3,.string ⟨#[]⟩,.int .u64 0,.int .i64 (k:Int)] 68)
    have R1:ResAt ((w.alloc (.cells #[.int .i64 0,.string ⟨#[]⟩,.int .u64 0,.int .i64 0] 68)).alloc (.cells #[.int .i64 3,.string ⟨#[]⟩,.int .u64 0,.int .i64 (k:Int)] 68)) w.heap.size:=by
      show _=_
      rw [Lib.alloc_old _ _ _ (by simp)]
      exact heap_alloc_new w _
    have N1:((w.alloc (.cells #[.int .i64 0,.string ⟨#[]⟩,.int .u64 0,.int .i64 0] 68)).alloc (.cells #[.int .i64 3,.string ⟨#[]⟩,.int .u64 0,.int .i64 (k:Int)] 68)).heap[w.heap.size+1]? =some (.cells #[.int .i64 3,.string ⟨#[]⟩,.int .u64 0,.int .i64 (k:Int)] 68 (0,0)):=by
      have:=heap_alloc_new (w.alloc (.cells #[.int .i64 0,.string ⟨#[]⟩,.int .u64 0,.int .i64 0] 68)) (.cells #[.int .i64 3,.string ⟨#[]⟩,.int .u64 0,.int .i64 (k:Int)] 68)
      simpa using this
    exact ⟨k,0,Nat.le_refl _,hk,by omega,by omega,by simp,hid ⟨by rw [RdrAt,Lib.alloc_old _ _ _ (by simp;omega),Lib.alloc_old _ _ _ hlt0];exact H0.out,rfl,A2,R1,N1⟩⟩
  case round=>
    clear c0 c1 f1 H0
    obtain ⟨j,acc,hkj,hj,hg,hac,hsz,H⟩:=hrel
    obtain ⟨wo,rfl⟩:∃x:World,x=wr:=⟨_,rfl⟩
    obtain ⟨c0,c1,f1⟩:=H.out.1.cells
    obtain ⟨⟨r0,r1,r2,r3⟩,q0,q1,q2,q3⟩:=H.out.2.2.2.1.cells
    obtain ⟨⟨t0,t1,t2,t3⟩,p2⟩:=H.out.2.2.2.2.cells
    by_cases hin:∃h:j<s.size,digB s[j]=true
    · obtain ⟨hlt, hin⟩ := hin
      have Hd:=hid (drop_at hlt)
      have Hin:=hid hin
      obtain ⟨d,hd,hd9⟩:∃d:Nat,s[j].toNat=d+48∧d≤9:=by
        simp only [digB,Bool.and_eq_true,decide_eq_true_eq] at hin
        exact ⟨s[j].toNat-48,by omega,by omega⟩
      have hlo:(48:Int)≤(s[j].toNat:Int):=by omega
      have hhi:(s[j].toNat:Int)≤57:=by omega
      have e1:IntKind.u8.wrap ((s[j].toNat:Int)-48)=(d:Int):=by rw [hd];simp only [IntKind.wrap_u8];omega
      have e2:IntKind.u64.wrap (d:Int)=(d:Int):=by simp only [IntKind.wrap_u64];omega
      have Hdd:=hid hd
      clear hin hd
      go_wp2_with fail
      go_quiet ((go_at_call 89;exact between_yes hlo hhi _ _))
      go_wp2_with fail
      go_quiet (fail)
      clear e1 e2
      by_cases hov:(9223372036854775808-d) / 10<acc
      · have HW:Hid (numS (s.size-k) 0 (s.data.toList.drop k)= .bad 1 (s.size-k)):=by
          show _=_
          rw [H.out.2.1,Hd.out,numS,if_pos Hin.out,Hdd.out,Nat.add_sub_cancel,if_pos hov]
        go_wp2_with fail
        refine (FNew_any 1 _ _ _).mono ?_
        rintro e w1 ⟨f,rfl,hF,hlf,hb1⟩
        have R1:=(show ResAt (wo.drewN (_+_)) w.heap.size from H.out.2.2.2.1).keep (F:=fun _=>False) (Fr.quiet hb1) (fun h=>h)
        have HB:=hid hb1
        have HF:=hid hF
        obtain ⟨⟨r0,r1,r2,r3⟩,q0,q1,q2,q3⟩:=R1.cells
        clear hF R1 hb1
        go_wp2
        exact bodyPost_ret (v:= .tuple #[tokV 0 (bytesOf []) 0 0,faultV f]) (by simp [results,Tryz.results91,go_sem,r0,r1,r2,r3]) rfl (end_bad (wo:=wo.drewN _) HW rfl (by omega) (by show _<wo.heap.size;omega) (H.out.2.2.1.drewN _) HF.out hlf HB.out (Fr.set4 _ _ _ _ _ _))
      · have HW:Hid (numS (s.size-k) 0 (s.data.toList.drop k)=numS (s.size-k) (10*acc+d) (s.data.toList.drop (j+1))):=by
          show _=_
          rw [H.out.2.1,Hd.out,numS,if_pos Hin.out,Hdd.out,Nat.add_sub_cancel,if_neg hov]
        have hac2:10*acc+d≤9223372036854775808:=by omega
        go_wp2
        go_roundg (s.size-(j+1))
        case measure=>omega
        case rel=>
          have F1:∀n,Fr (fun i=>i=w.heap.size+1) (wo.drewN n) ((wo.drewN n).setCell (⟨w.heap.size+1,2,none⟩:Addr) (.int .u64 ((10*acc+d:Nat):Int))):=fun n=>Fr.setCell _ (⟨w.heap.size+1,2,none⟩:Addr) _
          have F2:∀wz,Fr (fun i=>i=b) wz _:=fun wz=>Fr.setCell wz (⟨b,1,none⟩:Addr) (.int .i64 ((j+1:Nat):Int))
          obtain ⟨g1,g2,g3,g4,g5⟩:=H.out
          have G1:∀n,RdrAt (wo.drewN n) b s j:=fun _=>g1
          have G3:∀n,Fr (fun i=>i=b) w (wo.drewN n):=fun n=>g3.drewN n
          have G4:∀n,ResAt (wo.drewN n) w.heap.size:=fun _=>g4
          have G5:∀n,NumAt (wo.drewN n) (w.heap.size+1) k acc:=fun _=>g5
          refine ⟨j+1,10*acc+d,by omega,by omega,Nat.le_refl _,hac2,by simpa [World.setCell] using hsz,hid ⟨((G1 _).keep (F1 _) (show ¬b=w.heap.size+1 by omega)).set (j+1),HW.out,((G3 _).trans (F1 _) (fun i hi h=>by omega)).trans (F2 _) (fun i hi h=>h),((G4 _).keep (F:=fun i=>i=w.heap.size+1) (F1 _) (show ¬w.heap.size=w.heap.size+1 by omega)).keep (F:=fun i=>i=b) (F2 _) (show ¬w.heap.size=b by omega),((G5 _).set (10*acc+d)).keep (F:=fun i=>i=b) (F2 _) (show ¬w.heap.size+1=b by omega)⟩⟩
    · have HW:Hid (numS (s.size-k) 0 (s.data.toList.drop k)= .tok 3 [] acc (s.size-k) (s.data.toList.drop j)):=by
        show _=_
        rw [H.out.2.1]
        by_cases hlt:j<s.size
        · rw [drop_at hlt,numS,if_neg (fun h=>hin ⟨hlt,h⟩)]
        · rw [List.drop_eq_nil_of_le (by rw [Array.length_toList];exact Nat.le_of_not_lt hlt),numS]
      have hway:(j<s.size∧∃h:j<s.size,(s[j].toNat:Int)<48∨57<(s[j].toNat:Int))∨¬j<s.size:=by
        by_cases hlt:j<s.size
        · refine .inl ⟨hlt, hlt, ?_⟩
          have:¬digB s[j]=true:=fun h=>hin ⟨hlt,h⟩
          simp only [digB,Bool.and_eq_true,decide_eq_true_eq] at this
          omega
        · exact .inr hlt
      clear hin
      rcases hway with ⟨hlt,_,hin⟩|hlt
      · have Hin := hid hin
        clear hin
        go_wp2_with fail
        go_quiet ((go_at_call 89;exact between_no Hin.out _ _))
        go_wp2_with fail
        exact bodyPost_ret (v:= .tuple #[tokV 3 (bytesOf []) acc k,.nilIface]) (by simp [results,Tryz.results91,go_sem,r0,r1,r2,r3]) rfl (end_tok (wo:=wo.drewN _) HW (by simp;omega) hj rfl hlt0 H.out.1 (H.out.2.2.1.drewN _) (Fr.set4 _ _ _ _ _ _))
      · go_wp2_with fail
        go_quiet (fail)
        go_wp2_with fail
        exact bodyPost_ret (v:= .tuple #[tokV 3 (bytesOf []) acc k,.nilIface]) (by simp [results,Tryz.results91,go_sem,r0,r1,r2,r3]) rfl (end_tok (wo:=wo.drewN _) HW (by simp;omega) hj rfl hlt0 H.out.1 (H.out.2.2.1.drewN _) (Fr.set4 _ _ _ _ _ _))
end Go.Proofs.YtjlnpdpkobpkiaaGreatDoor
set_option linter.unusedVariables false
set_option linter.unusedSimpArgs false
namespace Go.Proofs.YtjlnpdpkobpkiaaGreatDoor
open Go.RowKit
theorem IsB.keep {F:Nat→Prop} {w w':World} {B b:Nat} {bs:List Value} (h:IsB B b bs w) (hf:Fr F w w') (hF:∀i,F i→i<B):IsB B b bs w':=by
  have key:∀p,Lib.BuilderAt 180 5 B b p bs w→Lib.BuilderAt 180 5 B b p bs w':=by
    rintro p ⟨hB,v,hb,hown,hne⟩
    refine ⟨hB,v,(hf.block b (blk_lt hb) (fun f=>by have:=hF b f;omega)).trans hb,hf.own hown (fun g hg f=> ?_),hne⟩
    have:=hF g f
    have:=(own_lt hown g hg).2
    omega
  rcases h with h|h
  · exact .inl (key _ h)
  · exact .inr (key _ h)
theorem IsB.fresh {w:World} {b B:Nat} (hB:B≤b) (h:w.heap[b]? =some (.cells #[.pointer none,.slice none 0 0] 180 (0,0))):IsB B b [] w:=
  .inl ⟨hB,_,h,own_nil w B _ _,by simp [Value.ownBlock]⟩
theorem esc_n (w:World):Calls Tryz.prog 113 #[.int .u8 110] w (RetS w (.tuple #[.int .u8 10,.bool true])):=by
  go_enter Tryz.func113,Tryz.ntmps113
  go_wp2
  go_ret2
  exact ⟨rfl,rfl⟩
theorem esc_q (w:World):Calls Tryz.prog 113 #[.int .u8 34] w (RetS w (.tuple #[.int .u8 34,.bool true])):=by
  go_enter Tryz.func113,Tryz.ntmps113
  go_wp2
  go_ret2
  exact ⟨rfl,rfl⟩
theorem esc_b (w:World):Calls Tryz.prog 113 #[.int .u8 92] w (RetS w (.tuple #[.int .u8 92,.bool true])):=by
  go_enter Tryz.func113,Tryz.ntmps113
  go_wp2
  go_ret2
  exact ⟨rfl,rfl⟩
theorem esc_no {c:Int} (h1:(c==110)=false) (h2:(c==34)=false) (h3:(c==92)=false) (w:World):Calls Tryz.prog 113 #[.int .u8 c] w (RetS w (.tuple #[.int .u8 0,.bool false])):=by
  go_enter Tryz.func113,Tryz.ntmps113
  go_wp2
  go_ret2
  exact ⟨rfl,rfl⟩
def escB (d:UInt8):Option UInt8:=if d=110 then some 10 else if d=34 then some 34 else if d=92 then some 92 else none
def escV (d:UInt8):Value:=match escB d with|some e=> .tuple #[.int .u8 (e.toNat:Int),.bool true]|none=> .tuple #[.int .u8 0,.bool false]
theorem escape_any (d:UInt8) (w:World):Calls Tryz.prog 113 #[.int .u8 (d.toNat:Int)] w (RetS w (escV d)):=by
  by_cases h1:d=110
  · subst h1;exact esc_n w
  · by_cases h2 : d = 34
    · subst h2;exact esc_q w
    · by_cases h3 : d = 92
      · subst h3;exact esc_b w
      · have e : escV d = .tuple #[.int .u8 0, .bool false] := by rw [escV, escB, if_neg h1, if_neg h2, if_neg h3]
        rw [e]
        have f:∀x:UInt8,d≠x→((d.toNat:Int)==(x.toNat:Int))=false:=fun x hx=>by
          have:¬d.toNat=x.toNat:=fun h=>hx (UInt8.toNat_inj.1 h)
          simpa using (show ¬(d.toNat:Int)=(x.toNat:Int) by omega)
        exact esc_no (f 110 h1) (f 34 h2) (f 92 h3) w
def textS (p:Nat) (out:List UInt8):List UInt8→Out
  |[]=> .bad 1 0
  |c::t=>
    if c=34 then (if 40<out.length then .bad 3 p else .tok 4 out 0 p t)
    else if c=92 then
      match t with
      |[]=> .bad 1 1
      |d::t'=>match escB d with
        |some e=>textS p (out++[e]) t'
        |none=> .bad 1 (t'.length+2)
    else if c.toNat<32 then .bad 1 (t.length+1) else textS p (out++[c]) t
end Go.Proofs.YtjlnpdpkobpkiaaGreatDoor
