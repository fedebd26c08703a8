import Derived.Test.YtjlnpdpkobpkiaaGreatDoorZ2LexN
set_option linter.unusedVariables false
set_option linter.unusedSimpArgs false
namespace Go.Proofs.YtjlnpdpkobpkiaaGreatDoor
open Go.RowKit
def Out.fine (l:List UInt8):Out→Prop
  | .tok k t n p r=>(k=0∧t=[]∧n=0∧p=0∧r=[]∧l=[])∨(1≤k∧k≤5∧p=l.length∧r.length<l.length)
  | .bad tag p=>(tag=1∨tag=3)∧p≤l.length
theorem takeW_pos {f:UInt8→Bool} {c:UInt8} {t:List UInt8} (h:f c=true):((c::t).dropWhile f).length<(c::t).length:=by
  rw [List.dropWhile_cons,if_pos h]
  have:=(List.dropWhile_sublist f (l:=t)).length_le
  simp
  omega
theorem word_fine {k:Nat} {c:UInt8} {t:List UInt8} (hk:1≤k∧k≤5) (h:innerB c=true):(wordS k (c::t)).fine (c::t):=by
  rw [wordS]
  split
  · exact ⟨.inr rfl,Nat.le_refl _⟩
  · exact .inr ⟨hk.1,hk.2,rfl,takeW_pos h⟩
theorem num_len (p acc:Nat) (l:List UInt8):∀{o},numS p acc l=o→(o= .bad 1 p)∨∃n r,o= .tok 3 [] n p r∧r.length≤l.length:=by
  induction l generalizing acc with
  |nil=>intro o h;exact .inr ⟨acc,[],h.symm,Nat.le_refl _⟩
  |cons c t ih=>
    intro o h
    rw [numS] at h
    split at h
    · split at h
      · exact .inl h.symm
      · rcases ih _ h with h | ⟨n, r, h, hl⟩
        · exact .inl h
        · exact .inr ⟨n,r,h,by simp;omega⟩
    · exact .inr ⟨acc,_,h.symm,Nat.le_refl _⟩
theorem num_fine {c:UInt8} {t:List UInt8} (h:digB c=true):(numS (c::t).length 0 (c::t)).fine (c::t):=by
  rw [numS,if_pos h]
  split
  · exact ⟨.inl rfl,Nat.le_refl _⟩
  · rcases num_len _ _ t rfl with h | ⟨n, r, h, hl⟩
    · rw [h];exact ⟨.inl rfl,Nat.le_refl _⟩
    · rw [h];exact .inr ⟨by omega,by omega,rfl,by simp;omega⟩
theorem text_len (p:Nat) (out l:List UInt8):(∃q,textS p out l= .bad 1 q∧q≤l.length)∨textS p out l= .bad 3 p∨∃t r,textS p out l= .tok 4 t 0 p r∧r.length<l.length:=by
  induction hn:l.length using Nat.strongRecOn generalizing l out with
  |_ n ih=>
    match l with
    |[]=>exact .inl ⟨0,textS_0 _ _,by omega⟩
    |c::t=>
      by_cases h1:c=34
      · rw [textS_q _ _ h1]
        split
        · exact .inr (.inl rfl)
        · exact .inr (.inr ⟨_,_,rfl,by simp at hn;omega⟩)
      · by_cases h2 : c = 92
        · match t with
          |[]=>rw [textS_b0 _ _ h1 h2];exact .inl ⟨1,rfl,by simp at hn;omega⟩
          |d::t'=>
            rw [textS_b _ _ h1 h2]
            cases he:escB d with
            |none=>exact .inl ⟨_,rfl,by simp at hn;omega⟩
            |some e=>
              have:=ih t'.length (by simp at hn;omega) (out++[e]) t' rfl
              rcases this with ⟨q,h,hq⟩|h|⟨t,r,h,hr⟩
              · exact .inl ⟨q,h,by simp at hn;omega⟩
              · exact .inr (.inl h)
              · exact .inr (.inr ⟨t,r,h,by simp at hn;omega⟩)
        · rw [textS_c _ _ h1 h2]
          split
          · exact .inl ⟨_,rfl,by simp at hn;omega⟩
          · have := ih t.length (by simp at hn; omega) (out ++ [c]) t rfl
            rcases this with ⟨q,h,hq⟩|h|⟨t,r,h,hr⟩
            · exact .inl ⟨q,h,by simp at hn;omega⟩
            · exact .inr (.inl h)
            · exact .inr (.inr ⟨t,r,h,by simp at hn;omega⟩)
theorem text_fine {c:UInt8} {t:List UInt8}:(textS (c::t).length [] t).fine (c::t):=by
  rcases text_len (c::t).length [] t with ⟨q,h,hq⟩|h|⟨u,r,h,hr⟩
  · rw [h];exact ⟨.inl rfl,by simp;omega⟩
  · rw [h];exact ⟨.inr rfl,Nat.le_refl _⟩
  · rw [h];exact .inr ⟨by omega,by omega,rfl,by simp;omega⟩
theorem sign_fine {c:UInt8} {t:List UInt8}:(signS (c::t)).fine (c::t):=by
  rw [signS]
  cases h:signL.find? (fun q=>Lib.hasPrefix (c::t) q) with
  |none=>exact ⟨.inl rfl,Nat.le_refl _⟩
  |some q=>
    have hm:=List.mem_of_find?_eq_some h
    have hq:1≤q.length:=by
      have:∀q∈signL,1≤q.length:=by decide
      exact this q hm
    exact .inr ⟨by omega,by omega,rfl,by rw [List.length_drop];simp;omega⟩
theorem tok_fine (l:List UInt8):(tokS l).fine l:=by
  match l with
  |[]=>exact .inl ⟨rfl,rfl,rfl,rfl,rfl,rfl⟩
  |c::t=>
    rw [tokS]
    split
    · rename_i h;exact word_fine (by omega) (by simp [innerB,h.1,h.2])
    · split
      · rename_i h;exact word_fine (by omega) (by simp [innerB,h.1,h.2])
      · split
        · rename_i h;exact num_fine (by simp [digB,h.1,h.2])
        · split
          · exact text_fine
          · exact sign_fine
theorem skip_len (b:Bool) (l:List UInt8):(skip b l).length≤l.length:=by
  induction l generalizing b with
  |nil=>cases b <;>exact Nat.le_refl _
  |cons c t ih=>
    cases b
    · rw [skip]
      split
      · have:=ih true;simp;omega
      · split
        · have:=ih false;simp;omega
        · exact Nat.le_refl _
    · rw [skip]
      split
      · have:=ih false;simp;omega
      · have:=ih true;simp;omega
structure Tk where
  kind:Nat
  text:List UInt8
  num:Nat
  start:Nat
def allF:Nat→List UInt8→Except (Nat×Nat) (List Tk)
  |0,_=> .ok []
  |n+1,l=>match nextS l with
    | .bad t p=> .error (t,p)
    | .tok k x m p r=>if k=0 then .ok [⟨k,x,m,p⟩] else (allF n r).map (fun ts=>⟨k,x,m,p⟩::ts)
def lexAll (l:List UInt8):Except (Nat×Nat) (List Tk):=allF (l.length+1) l
theorem next_fine (l:List UInt8):(nextS l).fine (skip false l):=tok_fine _
theorem all_more (n m:Nat) (l:List UInt8) (hn:l.length<n) (hm:l.length<m):allF n l=allF m l:=by
  induction n generalizing m l with
  |zero=>omega
  |succ n ih=>
    cases m with
    |zero=>omega
    |succ m=>
      rw [allF,allF]
      have hf:=next_fine l
      have hs:=skip_len false l
      cases ho:nextS l with
      |bad t p=>rfl
      |tok k x i p r=>
        rw [ho] at hf
        simp only
        split
        · rfl
        · rename_i hk
          rcases hf with hf|hf
          · exact absurd hf.1 hk
          · rw [ih m r (by omega) (by omega)]
theorem lexAll_step (l:List UInt8):lexAll l=match nextS l with
    | .bad t p=> .error (t,p)
    | .tok k x m p r=>if k=0 then .ok [⟨k,x,m,p⟩] else (lexAll r).map (fun ts=>⟨k,x,m,p⟩::ts):=by
  rw [lexAll,allF]
  have hf:=next_fine l
  have hs:=skip_len false l
  cases ho:nextS l with
  |bad t p=>rfl
  |tok k x i p r=>
    rw [ho] at hf
    simp only
    split
    · rfl
    · rename_i hk
      rcases hf with hf|hf
      · exact absurd hf.1 hk
      · rw [lexAll,all_more l.length (r.length+1) r (by omega) (by omega)]
def AllFine (l:List UInt8):Except (Nat×Nat) (List Tk)→Prop
  | .error (t,p)=>(t=1∨t=3)∧p≤l.length
  | .ok ts=>(∃us,ts=us++[⟨0,[],0,0⟩])∧ts.length≤l.length+1∧(∀i a,ts[i]? =some a→a.kind≤5∧a.start≤l.length∧(a.kind=0↔i+1=ts.length))∧∀i a b,ts[i]? =some a→ts[i+1]? =some b→b.start<a.start
theorem lex_fine (l:List UInt8):AllFine l (lexAll l):=by
  induction hn:l.length using Nat.strongRecOn generalizing l with
  |_ n ih=>
    rw [lexAll_step]
    have hf:=next_fine l
    have hs:=skip_len false l
    cases ho:nextS l with
    |bad t p=>
      rw [ho] at hf
      exact ⟨hf.1,Nat.le_trans hf.2 hs⟩
    |tok k x i p r=>
      rw [ho] at hf
      simp only
      rcases hf with ⟨rfl,rfl,rfl,rfl,rfl,_⟩|⟨h1,h2,h3,h4⟩
      · rw [if_pos rfl]
        refine ⟨⟨[],rfl⟩,by simp,?_,?_⟩
        · intro i a h
          match i,h with
          |0,h=>simp at h;subst h;simp
        · intro i a b h h'
          simp at h'
      · rw [if_neg (by omega)]
        have hr:=ih r.length (by omega) r rfl
        cases hl:lexAll r with
        |error e=>
          rw [hl] at hr
          obtain ⟨t,q⟩:=e
          exact ⟨hr.1,by have:=hr.2;omega⟩
        |ok ts=>
          rw [hl] at hr
          obtain ⟨⟨us,rfl⟩,hlen,ha,hb⟩:=hr
          refine ⟨⟨⟨k,x,i,p⟩::us,rfl⟩,by simp at hlen ⊢;omega,?_,?_⟩
          · intro j a h
            cases j with
            |zero=>simp at h;subst h;simp;omega
            |succ j=>
              have:=ha j a (by simpa using h)
              refine ⟨this.1,by omega,?_⟩
              rw [this.2.2]
              simp
          · intro j a b h h'
            cases j with
            |zero=>
              simp at h
              subst h
              have:=(ha 0 b (by simpa using h')).2.1
              simp
              omega
            |succ j=>exact hb j a b (by simpa using h) (by simpa using h')
end Go.Proofs.YtjlnpdpkobpkiaaGreatDoor
set_option linter.unusedVariables false
set_option linter.unusedSimpArgs false
namespace Go.Proofs.YtjlnpdpkobpkiaaGreatDoor
open Go.RowKit
theorem infoTok:(Tryz.prog.info? 68).map (fun i=>(i.zero,i.size,i.bytes))=some (some (.agg #[.int .i64 0,.string ⟨#[]⟩,.int .u64 0,.int .i64 0]),4,40):=by kernel_rfl
def tkCells (n:Nat) (t:Tk):List Value:=[.int .i64 (t.kind:Int),.string (bytesOf t.text),.int .u64 (t.num:Int),.int .i64 ((n-t.start:Nat):Int)]
def tksCells (n:Nat) (ts:List Tk):List Value:=ts.flatMap (tkCells n)
theorem tksCells_snoc (n:Nat) (ts:List Tk) (t:Tk):tksCells n (ts++[t])=tksCells n ts++tkCells n t:=by simp [tksCells,List.flatMap_append]
def AllPost (w:World) (s:ByteArray) (e:Ending) (w':World):Prop:=
  Below w.heap.size w w'∧match lexAll s.data.toList with
  | .ok ts=>ts.length≤s.size+1∧∃v,e= .returned (.tuple #[v,.nilIface])∧w'.ownsRow w.heap.size 68 4 v ts.length (tksCells s.size ts)
  | .error (tag,p)=>∃f what,e= .returned (.tuple #[.slice none 0 0,faultV f])∧FaultAt w' f tag (s.size-p:Nat) what .nilIface
theorem toks_grow {w w1 w2:World} {s:ByteArray} {j' k n p g cp:Nat} {ts:List Tk} {t:List UInt8} {v:Value} {kk:Int}
    (X:RdrAt w1 w.heap.size s j'∧Below w.heap.size w w1∧w1.ownsRow (w.heap.size+1) 68 4 v ts.length (tksCells s.size ts)∧w.heap.size<w1.heap.size) (hkk:kk=(k:Int))
    (hown1:w2.ownsRow (w.heap.size+1) 68 4 (.slice (some ⟨g,0,none⟩) (ts.length+1) cp) (ts.length+1) (tksCells s.size ts++[.int .i64 kk,.string (bytesOf t),.int .u64 (n:Int),.int .i64 ((s.size-p:Nat):Int)]))
    (hg1:(w1.alloc (.cells #[.int .i64 kk,.string (bytesOf t),.int .u64 (n:Int),.int .i64 ((s.size-p:Nat):Int)] 68)).grownBy w2 v.ownBlock):
    w2.cell? ⟨w1.heap.size,0,none⟩=some (.int .i64 kk)∧Hid (RdrAt w2 w.heap.size s j'∧Below w.heap.size w w2∧w2.ownsRow (w.heap.size+1) 68 4 (.slice (some ⟨g,0,none⟩) (ts.length+1) cp) (ts++[(⟨k,t,n,p⟩:Tk)]).length (tksCells s.size (ts++[(⟨k,t,n,p⟩:Tk)]))∧w.heap.size<w2.heap.size):=by
  subst hkk
  obtain ⟨hR,hB,hown,hsz⟩:=X
  have F1:Fr (fun i=>v.ownBlock=some i) w1 w2:=(((Fr.refl _ _).alloc _)).trans (Fr.grown hg1) (fun i hi h=>h)
  have hob:∀i,v.ownBlock=some i→w.heap.size+1≤i∧i<w1.heap.size:=fun i hi=>⟨(own_lt hown i hi).2,(own_lt hown i hi).1⟩
  refine ⟨?_,hR.keep F1 (fun h=>by have:=hob _ h;omega),hB.trans (F1.below (by omega) (fun i hi=>by have:=hob _ hi;omega)),?_,by have:=F1.size;omega⟩
  · have h2 := (Fr.grown hg1).block w1.heap.size (by simp) (fun e => by have := hob _ e; omega)
    rw [heap_alloc_new] at h2
    rw [cell_blk h2]
    rfl
  · rw [tksCells_snoc, List.length_append]
    exact hown1
set_option maxHeartbeats 8000000 in
set_option maxRecDepth 100000 in
theorem All_any {w:World} {s:ByteArray} (hs:s.size≤1073741824):
    Calls Tryz.prog 22 #[.string s] w (AllPost w s):=by
  have R0:Hid (RdrAt (w.alloc (.cells #[.string s,.int .i64 0] 143)) w.heap.size s 0):=heap_alloc_new w _
  go_enter Tryz.func22,Tryz.ntmps22
  go_wp2_with fail
  go_loopg [5] (s.size+1) (fun g v wr=>∃(j:Nat) (ts:List Tk),j≤s.size∧s.size+1-j≤g∧ts.length≤j∧w.heap.size<wr.heap.size∧Hid (RdrAt wr w.heap.size s j∧Below w.heap.size w wr∧wr.ownsRow (w.heap.size+1) 68 4 v ts.length (tksCells s.size ts)∧lexAll s.data.toList=(lexAll (s.data.toList.drop j)).map (fun us=>ts++us)))
  case atStart=>
    have E0:lexAll s.data.toList=(lexAll (s.data.toList.drop 0)).map (fun us=>[]++us):=by
      simp only [List.drop_zero,List.nil_append]
      cases lexAll s.data.toList <;>rfl
    exact ⟨0,[],by omega,by omega,by simp,by simp,hid ⟨R0.out,(Below.refl _ _).alloc (Nat.le_refl _) _,own_nil _ _ _ _,E0⟩⟩
  case round=>
    obtain ⟨j,ts,hj,hg,hts,hsz,H⟩:=hrel
    obtain ⟨wo,rfl⟩:∃x:World,x=wr:=⟨_,rfl⟩
    have HF:=hid (next_fine (s.data.toList.drop j))
    have HS:=hid (skip_len false (s.data.toList.drop j))
    have HE:=H.out.2.2.2
    rw [lexAll_step (s.data.toList.drop j)] at HE
    have HN:=hid (next_any H.out.1 hj hs)
    cases ho:nextS (s.data.toList.drop j) with
    |bad tag p=>
      rw [ho] at HE
      have HL:Hid (lexAll s.data.toList= .error (tag,p)):=HE
      have HO:=hid ho
      clear HE ho
      go_wp2_with fail
      refine HN.out.mono ?_
      rw [HO.out]
      rintro e w1 ⟨f,what,rfl,hlf,hA,hF⟩
      have HA:=hid hA
      have HB:Hid (Below w.heap.size w w1):=H.out.2.1.trans (hF.below (by omega) (fun i hi=>by omega))
      have hz:=hF.size
      clear hA hF
      go_wp2
      go_ret2
      refine ⟨HB.out.alloc (by omega) _,?_⟩
      rw [HL.out]
      exact ⟨f,what,rfl,(Lib.alloc_old w1 _ f (blk_lt HA.out)).trans HA.out⟩
    |tok k t n p r=>
      rw [ho] at HE
      have HF2:=HF.out
      rw [ho] at HF2
      have HO:=hid ho
      have HF3:=hid HF2
      have HE3:=hid HE
      clear HE ho HF HF2
      have hown:=H.out.2.2.1
      have hob:∀g,u5.ownBlock=some g→w.heap.size+1≤g:=fun g hg=>(own_lt hown g hg).2
      go_wp2_with fail
      refine HN.out.mono ?_
      rw [HO.out]
      rintro e w1 ⟨rfl,j',hj',hr,hR,hF⟩
      have X:Hid (RdrAt w1 w.heap.size s j'∧Below w.heap.size w w1∧w1.ownsRow (w.heap.size+1) 68 4 u5 ts.length (tksCells s.size ts)∧w.heap.size<w1.heap.size):=
        ⟨hR,H.out.2.1.trans (hF.below (by omega) (fun i hi=>by omega)),hF.own hown (fun g hg h=>by have:=hob g hg;omega),by have:=hF.size;omega⟩
      clear hown hF hR
      have hsz1:=X.out.2.2.2
      by_cases hk0:k=0
      · subst hk0
        have hl:Hid (lexAll s.data.toList= .ok (ts++[⟨0,t,n,p⟩])):=by
          show _=_
          rw [HE3.out,if_pos rfl]
          rfl
        have hz:(w1.alloc (.cells #[.int .i64 0,.string (bytesOf t),.int .u64 (n:Int),.int .i64 ((s.size-p:Nat):Int)] 68)).heap.size=w1.heap.size+1:=by simp
        have hown:=(X.out.2.2.1).alloc (.cells #[.int .i64 0,.string (bytesOf t),.int .u64 (n:Int),.int .i64 ((s.size-p:Nat):Int)] 68)
        go_wp2_with (at_builtin;go_must (refine wp_app1 (W:=w1.alloc (.cells #[.int .i64 0,.string (bytesOf t),.int .u64 (n:Int),.int .i64 ((s.size-p:Nat):Int)] 68)) (w.heap.size+1) rfl _ _ 62 68 _ 4 40 rfl Tryz.underlying62 infoTok rfl (by decide) (by decide) u5 ts.length (tksCells s.size ts) [.int .i64 0,.string (bytesOf t),.int .u64 (n:Int),.int .i64 ((s.size-p:Nat):Int)] rfl (by rw [hz];rfl) rfl (by simp [Value.oneCell']) hown (by simp;omega) (by omega) ?_);intro g cp w2 hown1 hg1 hor;have hT:=toks_grow (k:=0) X.out rfl hown1 hg1;obtain ⟨d0,X2⟩:=hT;clear hown1 hg1 hor hown)
        go_ret2
        refine ⟨X2.out.2.1,?_⟩
        rw [hl.out]
        refine ⟨by simp;omega,_,rfl,own_base X2.out.2.2.1 (fun g hg=>by have:=(own_lt X2.out.2.2.1 g hg).2;omega)⟩
      · have ek : ((k : Int) == 0) = false := by simpa using hk0
        have HK:=hid hk0
        clear hk0
        have hz:(w1.alloc (.cells #[.int .i64 (k:Int),.string (bytesOf t),.int .u64 (n:Int),.int .i64 ((s.size-p:Nat):Int)] 68)).heap.size=w1.heap.size+1:=by simp
        have hown:=(X.out.2.2.1).alloc (.cells #[.int .i64 (k:Int),.string (bytesOf t),.int .u64 (n:Int),.int .i64 ((s.size-p:Nat):Int)] 68)
        go_wp2_with (at_builtin;go_must (refine wp_app1 (W:=w1.alloc (.cells #[.int .i64 (k:Int),.string (bytesOf t),.int .u64 (n:Int),.int .i64 ((s.size-p:Nat):Int)] 68)) (w.heap.size+1) rfl _ _ 62 68 _ 4 40 rfl Tryz.underlying62 infoTok rfl (by decide) (by decide) u5 ts.length (tksCells s.size ts) [.int .i64 (k:Int),.string (bytesOf t),.int .u64 (n:Int),.int .i64 ((s.size-p:Nat):Int)] rfl (by rw [hz];rfl) rfl (by simp [Value.oneCell']) hown (by simp;omega) (by omega) ?_);intro g cp w2 hown1 hg1 hor;have hT:=toks_grow (k:=k) X.out rfl hown1 hg1;obtain ⟨d0,X2⟩:=hT;clear hown1 hg1 hor hown)
        have hl:Hid (lexAll s.data.toList=(lexAll (s.data.toList.drop j')).map (fun us=>(ts++[⟨k,t,n,p⟩])++us)):=by
          show _=_
          rw [HE3.out,if_neg HK.out,hr]
          cases lexAll r <;>simp [Except.map]
        have hlt:j<j':=by
          rcases HF3.out with h|h
          · exact absurd h.1 HK.out
          · have h1 := h.2.2.2
            have h2:=HS.out
            rw [←hr,drop_len] at h1
            rw [drop_len] at h2
            omega
        have hsz2:=X2.out.2.2.2
        go_roundg (s.size+1-j')
        case measure=>omega
        case rel=>exact ⟨j',ts++[⟨k,t,n,p⟩],hj',Nat.le_refl _,by simp;omega,hsz2,hid ⟨X2.out.1,X2.out.2.1,X2.out.2.2.1,hl.out⟩⟩
end Go.Proofs.YtjlnpdpkobpkiaaGreatDoor
set_option linter.unusedVariables false
set_option linter.unusedSimpArgs false
namespace Go.Proofs.YtjlnpdpkobpkiaaGreatDoor
open Go.RowKit
theorem tks_get (sz:Nat) (ts:List Tk) (i j:Nat) (t:Tk) (h:ts[i]? =some t) (hj:j<4):(tksCells sz ts)[i*4+j]? =(tkCells sz t)[j]? :=by
  induction ts generalizing i with
  |nil=>simp at h
  |cons a ts ih=>
    have e:tksCells sz (a::ts)=tkCells sz a++tksCells sz ts:=by simp [tksCells]
    have hl:(tkCells sz a).length=4:=rfl
    rw [e]
    cases i with
    |zero=>
      simp only [List.getElem?_cons_zero,Option.some.injEq] at h
      subst h
      rw [List.getElem?_append_left (by rw [hl];omega)]
      simp
    |succ i=>
      simp only [List.getElem?_cons_succ] at h
      rw [List.getElem?_append_right (by rw [hl];omega),hl,←ih i h]
      congr 1
      omega
def TksAt (w:World) (g sz:Nat) (ts:List Tk):Prop:=∀i t,ts[i]? =some t→w.cell? ⟨g,i*4,none⟩=some (.int .i64 (t.kind:Int))∧w.cell? ⟨g,i*4+1,none⟩=some (.string (bytesOf t.text))∧w.cell? ⟨g,i*4+2,none⟩=some (.int .u64 (t.num:Int))∧w.cell? ⟨g,i*4+3,none⟩=some (.int .i64 ((sz-t.start:Nat):Int))
theorem toks_at {w:World} {B sz:Nat} {ts:List Tk} {v:Value} (h:w.ownsRow B 68 4 v ts.length (tksCells sz ts)) (hne:ts≠[]):∃g cap,v= .slice (some ⟨g,0,none⟩) ts.length cap∧ts.length≤cap∧g<w.heap.size∧B≤g∧TksAt w g sz ts:=by
  have hl:=own_lt h
  have h':=h
  rcases h.2 with ⟨_,h0⟩|⟨g,cap,cur,rfl,_,_,hcap,_⟩
  · exact absurd (List.eq_nil_of_length_eq_zero h0) hne
  · have hc := h'.cells (g := g) rfl
    refine ⟨g,cap,rfl,hcap,(hl g rfl).1,(hl g rfl).2,fun i t ht=> ?_⟩
    have k:∀j,j<4→w.cell? ⟨g,i*4+j,none⟩=(tkCells sz t)[j]? :=by
      intro j hj
      have hx:=tks_get sz ts i j t ht hj
      have hy:(tkCells sz t)[j]? =some ((tkCells sz t)[j]'(by show j<4;exact hj)):=List.getElem?_eq_getElem _
      have:=hc _ _ (hx.trans hy)
      rw [addr_add,Nat.zero_add] at this
      rw [this,hy]
    exact ⟨k 0 (by decide),k 1 (by decide),k 2 (by decide),k 3 (by decide)⟩
end Go.Proofs.YtjlnpdpkobpkiaaGreatDoor
set_option linter.unusedVariables false
set_option linter.unusedSimpArgs false
namespace Go.Proofs.YtjlnpdpkobpkiaaGreatDoor
open Go.RowKit
def Tk.up (d:Nat) (t:Tk):Tk:=⟨t.kind,t.text,t.num,t.start+d⟩
end Go.Proofs.YtjlnpdpkobpkiaaGreatDoor
