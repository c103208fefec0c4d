/-
  A part of the walk of TopReports.
-/
import Derived.Test.YtlhlmflacdeafaaGreatDoorRows
import Derived.WalkKit
import Derived.WalkLawsBesides
import Derived.WalkSpells
import Derived.Lib.Hide
import Derived.StillTailTactics
import Derived.Deep.OwnRows
import Derived.Deep.MidRow
import Derived.Deep.RegionHeld3
import Derived.Deep.DeepCutAuto
import Derived.Deep.CutBlock
import Derived.Deep.DeepFit
import Derived.RegionTactic
import Derived.ChangeAlike
import Derived.LoopTactic
import Derived.Below
import Derived.Deep.AppendLies
set_option maxRecDepth 100000
set_option maxHeartbeats 4000000
set_option linter.unusedVariables false
set_option linter.unusedSimpArgs false
namespace Go.Proofs.YtlhlmflacdeafaaGreatDoor
section
open Go.RowKit
structure Upd (S:Nat→Prop) (w w':World):Prop where
  os:w'.os=w.os
  tape:w'.tape=w.tape
  output:w'.output=w.output
  size:w.heap.size≤w'.heap.size
  block:∀k,k<w.heap.size→¬S k→w'.heap[k]? =w.heap[k]?
theorem Upd.refl (S:Nat→Prop)(w:World):Upd S w w:=⟨rfl,rfl,rfl,Nat.le_refl _,fun _ _ _=>rfl⟩
theorem Upd.trans {S:Nat→Prop}{a b c:World}(h:Upd S a b)(k:Upd S b c):Upd S a c:=
  ⟨k.os.trans h.os,k.tape.trans h.tape,k.output.trans h.output,Nat.le_trans h.size k.size,fun i hi hs=>(k.block i (Nat.lt_of_lt_of_le hi h.size) hs).trans (h.block i hi hs)⟩
theorem Upd.mono {S T:Nat→Prop}{w w':World}(h:Upd S w w')(hs:∀k,k<w.heap.size→S k→T k):Upd T w w':=
  ⟨h.os,h.tape,h.output,h.size,fun k hk hn=>h.block k hk fun hS=>hn (hs k hk hS)⟩
theorem Upd.below {S:Nat→Prop}{w w':World}{B:Nat}(h:Upd S w w')(hB:B≤w.heap.size)(hs:∀k,S k→B≤k):Below B w w':=
  ⟨h.os,h.tape,h.output,h.size,fun k hk=>h.block k (Nat.lt_of_lt_of_le hk hB) fun hS=>by have:=hs k hS;omega⟩
theorem upd_of_below {w w':World}{S:Nat→Prop}(h:Below w.heap.size w w'):Upd S w w':=⟨h.os,h.tape,h.output,h.size,fun k hk _=>h.block k hk⟩
theorem Upd.above {S:Nat→Prop}{w w2 w3:World}(h:Upd S w w2)(k:Upd (fun k=>w.heap.size≤k) w2 w3):Upd S w w3:=
  ⟨k.os.trans h.os,k.tape.trans h.tape,k.output.trans h.output,Nat.le_trans h.size k.size,fun i hi hs=>(k.block i (Nat.lt_of_lt_of_le hi h.size) (by omega)).trans (h.block i hi hs)⟩
theorem heap_lt {w:World}{k:Nat}{o:Obj}(h:w.heap[k]? =some o):k<w.heap.size:=by
  rcases Nat.lt_or_ge k w.heap.size with g|g
  · exact g
  · rw[Array.getElem?_eq_none g]at h;cases h
theorem cell_lt {w:World}{p:Addr}{v:Value}(h:w.cell? p=some v):p.block<w.heap.size:=by
  unfold World.cell? at h;split at h
  · rename_i hb;exact heap_lt hb
  · cases h
theorem Upd.cell {S:Nat→Prop}{w w':World}(hu:Upd S w w'){p:Addr}{v:Value}(h:w.cell? p=some v)(hn:¬S p.block):w'.cell? p=some v:=by
  rw[←h];exact World.cell?_of_block (w:=w) (hu.block p.block (cell_lt h) hn)
theorem heap_new (w:World)(o:Obj):(w.alloc o).heap[w.heap.size]? =some o:=by
  show(w.heap.push o)[w.heap.size]? =_;simp
theorem upd_alloc (S:Nat→Prop)(w:World)(o:Obj):Upd S w (w.alloc o):=upd_of_below ((Below.refl _ _).alloc (Nat.le_refl _) _)
theorem upd_drew (S:Nat→Prop)(w:World):Upd S w w.drew:=⟨rfl,rfl,rfl,Nat.le_refl _,fun _ _ _=>rfl⟩
theorem upd_drewN (S:Nat→Prop)(w:World)(n:Nat):Upd S w (w.drewN n):=⟨rfl,rfl,rfl,Nat.le_refl _,fun _ _ _=>rfl⟩
theorem upd_setCell (w:World)(p:Addr)(v:Value):Upd (·=p.block) w (w.setCell p v):=⟨rfl,rfl,rfl,by simp[World.setCell],fun k _ hn=>Below.heap_setCell _ _ _ _ hn⟩
def u8 (n:Nat):Value:= .int .u8 n
def arr (n:Nat)(f:Nat→Nat):Array Value:=((List.range n).map fun j=>u8 (f j)).toArray
theorem arr_size (n:Nat)(f:Nat→Nat):(arr n f).size=n:=by simp[arr]
theorem arr_at (n:Nat)(f:Nat→Nat)(j:Nat)(h:j<n):(arr n f)[j]? =some (.int .u8 (f j)):=by simp[arr,u8,h]
theorem arr_congr {n:Nat}{f g:Nat→Nat}(h:∀j,j<n→f j=g j):arr n f=arr n g:=by
  unfold arr;congr 1;exact List.map_congr_left fun j hj=>by rw[h j (by simpa using hj)]
def put (f:Nat→Nat)(i x:Nat):Nat→Nat:=fun j=>if j=i then x else f j
theorem arr_set (n:Nat)(f:Nat→Nat)(i x:Nat):(arr n f).setIfInBounds i (.int .u8 x)=arr n (put f i x):=by
  apply Array.ext_getElem?;intro j;rw[Array.getElem?_setIfInBounds,arr_size];by_cases hj:j<n
  · rw[arr_at n f j hj,arr_at n (put f i x) j hj];unfold put;by_cases h:i=j
    · subst h;simp[hj]
    · rw[if_neg h,if_neg (fun e:j=i=>h e.symm)]
  · rw[Array.getElem?_eq_none (by rw[arr_size];omega),Array.getElem?_eq_none (by rw[arr_size];omega)];by_cases h:i=j
    · subst h;simp[hj]
    · simp[h]
def Blk (w:World)(b:Nat)(t:TypeId)(n:Nat)(f:Nat→Nat):Prop:=w.heap[b]? =some (.cells (arr n f) t (0,0))
section
variable {w w':World} {b:Nat} {t:TypeId} {n:Nat} {f g:Nat→Nat}
theorem Blk.lt (h:Blk w b t n f):b<w.heap.size:=heap_lt h
theorem Blk.cell (h:Blk w b t n f){j:Nat}(hj:j<n):w.cell? ⟨b,j,none⟩=some (.int .u8 (f j)):=by
  rw[cell_of_row w b j _ t (0,0) h,arr_at n f j hj]
theorem Blk.free (h:Blk w b t n f)(j:Nat):w.frozen? ⟨b,j,none⟩=false:=frozen_of_row w b j _ t h
theorem Blk.new (w:World)(t:TypeId)(n:Nat)(f:Nat→Nat):Blk (w.alloc (.cells (arr n f) t)) w.heap.size t n f:=heap_new w _
theorem Blk.keep (h:Blk w b t n f){S:Nat→Prop}(hu:Upd S w w')(hn:¬S b):Blk w' b t n f:=by
  unfold Blk at*;rw[hu.block b (heap_lt h) hn];exact h
theorem Blk.alloc (h:Blk w b t n f)(o:Obj):Blk (w.alloc o) b t n f:=h.keep (upd_alloc (fun _=>False) _ _) (fun h=>h)
theorem Blk.drew (h:Blk w b t n f):Blk w.drew b t n f:=h
theorem Blk.congr (h:Blk w b t n f)(e:∀j,j<n→f j=g j):Blk w b t n g:=by
  unfold Blk at*;rw[h,arr_congr e]
theorem Blk.set (h:Blk w b t n f)(j x:Nat):Blk (w.setCell ⟨b,j,none⟩ (.int .u8 x)) b t n (put f j x):=by
  unfold Blk;rw[heap_setCell_same w b j _ t _ h,arr_set]
theorem Blk.other (h:Blk w b t n f){a:Addr}(hn:b≠a.block)(v:Value):Blk (w.setCell a v) b t n f:=by
  unfold Blk at*;rw[heap_setCell_other w a b v hn];exact h
theorem Blk.range (h:Blk w b t n f)(o m:Nat)(hm:o+m≤n):w.rangeAt b o (arr m fun j=>f (o+j)).toList:=fun j v hv=>by
  have hj:j<m:=by have:=(List.getElem?_eq_some_iff.1 hv).1;simpa[arr_size]using this
  rw[h.cell (show o+j<n by omega)];rw[Array.getElem?_toList,arr_at _ _ _ hj]at hv;exact hv
theorem Blk.there (h:Blk w b t n f):w.there b 0 n:=fun j hj=>by
  have:=h.cell hj;rw[Nat.zero_add];exact⟨by rw[this];rfl,h.free j⟩
theorem Blk.all (h:Blk w b t n f):w.rangeAt b 0 (arr n f).toList:=by
  have:=h.range 0 n (by omega);simpa using this
theorem Blk.setRow (h:Blk w b t n f)(g:Nat→Nat):Blk (w.setRow b (arr n g)) b t n g:=setRow_heap w b _ _ t _ h
theorem upd_setRow (w:World)(b:Nat)(cs:Array Value):Upd (·=b) w (w.setRow b cs):=⟨rfl,rfl,rfl,by simp,fun k _ hn=>setRow_other w b k cs hn⟩
end
theorem below_drew {B:Nat}{w w':World}(h:Below B w w'):Below B w w'.drew:=⟨h.os,h.tape,h.output,h.size,h.block⟩
def upTo (F G:Nat→Nat)(n:Nat):Nat→Nat:=fun j=>if j<n then F j else G j
theorem upTo_zero (F G:Nat→Nat):upTo F G 0=G:=by funext j;simp[upTo]
theorem upTo_put (F G:Nat→Nat)(n:Nat):put (upTo F G n) n (F n)=upTo F G (n+1):=by
  funext j;unfold put upTo;by_cases h:j=n
  · subst h;simp
  · rw[if_neg h];by_cases h2:j<n
    · rw[if_pos h2,if_pos (by omega)]
    · rw[if_neg h2,if_neg (by omega)]
theorem upTo_all (F G:Nat→Nat)(n:Nat):∀j,j<n→upTo F G n j=F j:=fun j h=>by unfold upTo;rw[if_pos h]
def st (l:List UInt8):ByteArray:=⟨l.toArray⟩
theorem st_size (l:List UInt8):(st l).size=l.length:=by simp[st,ByteArray.size]
theorem st_app (a b:List UInt8):st a++st b=st (a++b):=by
  apply ByteArray.ext;rw[ByteArray.data_append];simp[st]
theorem st_at (l:List UInt8)(i:Nat)(h:i<(st l).size):(st l)[i]=l[i]'(by rw[st_size]at h;exact h):=rfl
theorem st_self (s:ByteArray):st s.data.toList=s:=by simp[st]
def b8 (n:Nat):UInt8:=UInt8.ofNat n
theorem b8_toNat (n:Nat)(h:n<256):(b8 n).toNat=n:=by simp[b8];omega
theorem conv_back (n:Nat)(w:World)(a:Addr)(cap:Nat)(f:Nat→Nat)(hf:∀j,f j<256)(hc:∀j u,(arr n f).toList[j]? =some u→w.cell? (a.add j)=some u):
    (convert 113 9 (.slice (some a) n cap)).run Tryz.prog w= .ok (.string (st ((List.range n).map fun j=>b8 (f j)))) w:=by
  have:=run_convert_bytes_back (P:=Tryz.prog) w 113 9 5 a cap ((List.range n).map fun j=>UInt8.ofNat (f j)) Tryz.underlying113 Tryz.underlying5 Tryz.underlying9 (fun j hj=>by
    have hj:j<n:=by simpa using hj
    refine hc j _ ?_;rw[Array.getElem?_toList,arr_at n f j hj];simp;have:=hf j;omega)
  simpa[st,b8]using this
theorem cells_add {w:World}{b t n:Nat}{f:Nat→Nat}(h:Blk w b t n f):∀j u,(arr n f).toList[j]? =some u→w.cell? ((⟨b,0,none⟩:Addr).add j)=some u:=fun j u hj=>by
  rw[Addr.add_mid];exact h.all j u hj
theorem info5:(Tryz.prog.info? 5).map (fun i=>(i.zero,i.size,i.bytes))=some (some (.int .u8 0),1,1):=by kernel_rfl
theorem make_any (n:Nat)(hn:n≤1000)(w:World):(Instr.makeSlice 113 (.int .i64 n) (.int .i64 n)).run Tryz.prog w= .ok (.slice (some ⟨w.heap.size,0,none⟩) n n) (w.alloc (.cells (arr n fun _=>0) 5)):=by
  have h:=run_make_row' (P:=Tryz.prog) 113 5 (.int .u8 0) 1 Tryz.underlying113 info5 rfl .i64 .i64 n (by omega) (by omega) w;have e:madeCells #[Value.int .u8 0] n=arr n fun _=>0:=by
    apply Array.ext_getElem?;intro j;by_cases hj:j<n
    · rw[arr_at n _ j hj];simp[madeCells,hj,Nat.mod_one]
    · rw[Array.getElem?_eq_none (by simp[madeCells];omega),Array.getElem?_eq_none (by rw[arr_size];omega)]
  rw[e]at h;exact h
end
section
open Go.RowKit
abbrev nS:Value:= .slice none 0 0
abbrev QT:Type:=Exit→Act→World→Prop
abbrev Rv (f:FuncId)(args:Array Value)(w:World)(v:Value):Prop:=Calls Tryz.prog f args w fun e w'=>e= .returned v∧Below w.heap.size w w'
end
section
open Go.RowKit
section
variable {P:Program} {ops:Array Oper} {Q:Exit→Act→World→Prop} {md:Region.Mode} {S:World→Prop} {T:Nat→Bool}
def wpAnyT (P:Program)(md:Region.Mode)(ops:Array Oper)(Q:Exit→Act→World→Prop)(S:World→Prop)(T:Nat→Bool):Nat→Array Bool→Act→World→Prop
  |0,listed,a,w=>Region.ready md ops listed=[]∧Q .normal a w
  |fuel+1,listed,a,w=>
    (Region.ready md ops listed=[]→Q .normal a w)∧
    ∀i∈Region.ready md ops listed,wpOp P ops Q i (fun a' w'=>(T i=false→S w')∧wpAnyT P md ops Q S T fuel (listed.setIfInBounds i true) a' w') a w
theorem wpAny_of_T:∀(fuel:Nat) (listed:Array Bool) (a:Act) (w:World),wpAnyT P md ops Q S T fuel listed a w→wpAny P md ops Q fuel listed a w
  |0,_,_,_,h=>h
  |fuel+1,_,_,_,h=>⟨h.1,fun i hi=>wpOp_mono (fun a' w' h'=>wpAny_of_T fuel _ a' w' h'.2) (h.2 i hi)⟩
def AllReadyT (P:Program)(md:Region.Mode)(ops:Array Oper)(Q:Exit→Act→World→Prop)(S:World→Prop)(T:Nat→Bool)(fuel:Nat)(listed:Array Bool)(a:Act)(w:World)(rs:List Nat):Prop:=
  ∀i∈rs,wpOp P ops Q i (fun a' w'=>(T i=false→S w')∧wpAnyT P md ops Q S T fuel (listed.setIfInBounds i true) a' w') a w
theorem AllReadyT.nil {fuel:Nat}{listed:Array Bool}{a:Act}{w:World}:AllReadyT P md ops Q S T fuel listed a w []:=fun _ h=>by cases h
theorem AllReadyT.cons {fuel:Nat}{listed:Array Bool}{a:Act}{w:World}{i:Nat}{o:Oper}{rs:List Nat}(ho:ops.toList[i]? =some o)
    (h:∀K':Act→World→Prop,Hid (∀a w,(T i=false→S w)→(S w→wpAnyT P md ops Q S T fuel (listed.setIfInBounds i true) a w)→K' a w)→if Region.wanted o (yielded ops a.tmps)=true then Oper.wp P o a w K' Q else K' (a.put o.dst undef) w)(hTi:T i=false)
    (hs:AllReadyT P md ops Q S T fuel listed a w rs):AllReadyT P md ops Q S T fuel listed a w (i::rs):=fun j hj=>by
  rcases List.mem_cons.1 hj with rfl|hj
  · exact wpOp_step (by rw[←Array.getElem?_toList];exact ho) (fun K' hK=>h K' (Lib.hid fun a w hS hW=>hK a w ⟨hS,hW (hS hTi)⟩))
  · exact hs j hj
theorem AllReadyT.last {fuel:Nat}{listed:Array Bool}{a:Act}{w:World}{i:Nat}{o:Oper}(ho:ops.toList[i]? =some o)
    (h:∀K':Act→World→Prop,Hid (∀a w,wpAnyT P md ops Q S T fuel (listed.setIfInBounds i true) a w→K' a w)→if Region.wanted o (yielded ops a.tmps)=true then Oper.wp P o a w K' Q else K' (a.put o.dst undef) w)(hTi:T i=true):
    AllReadyT P md ops Q S T fuel listed a w [i]:=fun j hj=>by
  rcases List.mem_cons.1 hj with rfl|hj
  · exact wpOp_step (by rw[←Array.getElem?_toList];exact ho) (fun K' hK=>h K' (Lib.hid fun a w hW=>hK a w ⟨fun e=>(by rw[hTi]at e;cases e),hW⟩))
  · cases hj
theorem wpAnyT_ready {rs:List Nat}{fuel:Nat}{listed:Array Bool}{a:Act}{w:World}(hr:Region.ready md ops listed=rs)(hne:rs≠[])
    (h:AllReadyT P md ops Q S T fuel listed a w rs):wpAnyT P md ops Q S T (fuel+1) listed a w:=⟨fun h0=>absurd (hr▸h0) hne,hr▸h⟩
theorem wpAnyT_done {listed:Array Bool}{a:Act}{w:World}(hr:Region.ready md ops listed=[])(h:Q .normal a w):∀fuel,wpAnyT P md ops Q S T fuel listed a w
  |0=>⟨hr,h⟩
  |_+1=>⟨fun _=>h,by rw[hr];simp⟩
theorem wp_region_T {id:Nat}{a:Act}{w:World}(T:Nat→Bool)(hm:P.follows .mixedOrders=true)(hS:S w.drew)
    (h:S w.drew→wpAnyT P .any ops (NoPanic Q) S T ops.size (Array.replicate ops.size false) a w.drew):(Code.region id ops true).wp P Q a w:=
  wp_region_noPanic (wp_region_any hm (wpAny_of_T _ _ _ _ (h hS)))
end
end
section
open Go.RowKit
section
variable {P:Program} {ops:Array Oper} {Q:Exit→Act→World→Prop} {md:Region.Mode} {S:World→Prop} {T:Nat→Bool}
def Region.reach (md:Region.Mode)(ops:Array Oper)(i:Nat):Nat→Nat→Bool
  |0,_=>false
  |f+1,j=>match ops[j]? with
    |some oj=>oj.after.any fun e=>Region.binds md e&&(e.on==i||Region.reach md ops i f e.on)
    |none=>false
def Region.shut (md:Region.Mode)(ops:Array Oper)(listed:Array Bool):Prop:=
  ∀j oj,ops[j]? =some oj→listed.getD j true=true→∀e∈oj.after,Region.binds md e=true→listed.getD e.on true=true
theorem reach_listed {listed:Array Bool}{i:Nat}(hc:Region.shut md ops listed):∀f j,Region.reach md ops i f j=true→listed.getD j true=true→listed.getD i true=true
  |0,_,h,_=>by simp[Region.reach]at h
  |f+1,j,h,hl=>by
    rw[Region.reach]at h;split at h
    · rename_i oj hoj;obtain⟨e,he,hb⟩:=Array.any_eq_true'.1 h;simp only[Bool.and_eq_true,Bool.or_eq_true,beq_iff_eq]at hb;have h1:=hc j oj hoj hl e he hb.1;rcases hb.2 with h2|h2
      · rw[←h2];exact h1
      · exact reach_listed hc f e.on h2 h1
    · cases h
theorem getD_set_true (listed:Array Bool)(j k:Nat)(h:listed.getD k true=true):(listed.setIfInBounds j true).getD k true=true:=by
  by_cases hjk:j=k
  · subst hjk;rcases Nat.lt_or_ge j listed.size with h'|h'
    · simp[h']
    · simp[Array.getElem?_eq_none h']
  · rw[getD_set_ne true hjk];exact h
theorem getD_set_self (listed:Array Bool)(j:Nat):(listed.setIfInBounds j true).getD j true=true:=by
  rcases Nat.lt_or_ge j listed.size with h'|h'
  · simp[h']
  · simp[Array.getElem?_eq_none h']
theorem shut_next {listed:Array Bool}{j:Nat}(hc:Region.shut md ops listed)(hj:j∈Region.ready md ops listed):Region.shut md ops (listed.setIfInBounds j true):=fun k ok hk hl e he hb=>by
  refine getD_set_true _ _ _ ?_;by_cases hjk:j=k
  · subst hjk;obtain⟨_,oj,hoj,hall⟩:=mem_ready.1 hj;rw[hk]at hoj;cases hoj;have:=hall e he hb;rcases Nat.lt_or_ge e.on listed.size with h'|h'
    · simpa[h']using this
    · simp[Array.getElem?_eq_none h']
  · rw[getD_set_ne true hjk]at hl;exact hc k ok hk hl e he hb
theorem wpAnyT_first2 {i:Nat}{oi:Oper}{v:Value}(hi:ops[i]? =some oi)(hsel:∀(j:Nat) (o:Oper) cs b,ops[j]? =some o→o.op≠ .select cs b)
    (hQ:∀c a w,Q (.panic c) (a.put oi.dst v) w→Q (.panic c) a w)
    (hT:∀j oj,ops[j]? =some oj→j≠i→T j=true→∃f,Region.reach md ops i f j=true)(hTi:T i=false):
    ∀(fuel:Nat) (listed:Array Bool) (a:Act) (w:World),Region.shut md ops listed→
      (∀j oj,ops[j]? =some oj→j≠i→listed.getD j true=false→(∀e∈oj.after,Region.binds md e=true→e.on≠i)→oi.apart ops oj=true)→
      i∈Region.ready md ops listed→YieldsIf P ops S oi v a→S w→
      wpAnyT P md ops Q S T fuel (listed.setIfInBounds i true) (a.put oi.dst v) w→wpAnyT P md ops Q S T (fuel+1) listed a w:=by
  intro fuel;induction fuel with
  |zero=>
    intro listed a w _ _ hr hy hS H;refine⟨fun h=>(by rw[h]at hr;cases hr),fun j hj=>?_⟩;by_cases hji:j=i
    · subst hji;exact hy.wpOp hi hS ⟨fun _=>hS,H⟩
    · have:=ready_mono hj hji;rw[H.1]at this;cases this
  |succ fuel ih=>
    intro listed a w hsh hfree hr hy hS H;refine⟨fun h=>(by rw[h]at hr;cases hr),fun j hj=>?_⟩;by_cases hji:j=i
    · subst hji;exact hy.wpOp hi hS ⟨fun _=>hS,H⟩
    · have h1:=H.2 j (ready_mono hj hji);obtain⟨hjun,oj,hoj,hall⟩:=mem_ready.1 hj;have hnot:∀e∈oj.after,Region.binds md e=true→e.on≠i:=fun e he hb heq=>by
        have h1:=hall e he hb;have h0:=(mem_ready.1 hr).1;rw[heq]at h1;rcases Nat.lt_or_ge i listed.size with h'|h'
        · simp[h']at h0 h1;rw[h0]at h1;cases h1
        · simp[Array.getElem?_eq_none h']at h1
      have hTj:T j=false:=by
        cases ht:T j with
        |false=>rfl
        |true=>
          obtain⟨f,hf⟩:=hT j oj hoj hji ht;have h2:=reach_listed (shut_next hsh hj) f j hf (getD_set_self _ _);rw[getD_set_ne true hji]at h2;have h0:=(mem_ready.1 hr).1;rw[h0]at h2;cases h2
      have h2:=wpOp_putIf hoj (hfree j oj hoj hji hjun hnot) (fun cs b=>hsel i oi cs b hi) (fun cs b=>hsel j oj cs b hoj) hQ hy h1;have hfree':∀k ok,ops[k]? =some ok→k≠i→(listed.setIfInBounds j true).getD k true=false→
          (∀e∈ok.after,Region.binds md e=true→e.on≠i)→oi.apart ops ok=true:=fun k ok hk hki hun hno=>by
        refine hfree k ok hk hki ?_ hno;by_cases hjk:j=k
        · subst hjk;exact hjun
        · rw[getD_set_ne true hjk]at hun;exact hun
      refine wpOp_mono (fun a' w' h3=>⟨fun _=>h3.2.1 hTj,ih (listed.setIfInBounds j true) a' w' (shut_next hsh hj) hfree' (ready_mono hr (Ne.symm hji)) h3.1 (h3.2.1 hTj) ?_⟩) h2;rw[Array.setIfInBounds_comm _ _ hji];exact h3.2.2
def Region.waitT2 (md:Region.Mode)(ops:Array Oper)(T:Nat→Bool)(i:Nat)(listed:Array Bool):Bool:=
  !T i&&((List.range ops.size).all fun j=> !T j||(j==i||Region.reach md ops i 20 j))&&
  (List.range ops.size).all fun j=> !(listed.getD j true)||match ops[j]? with
    |some oj=>oj.after.all fun e=> !(Region.binds md e)||listed.getD e.on true
    |none=>true
theorem wpAnyT_take2 {i:Nat}{oi:Oper}{v:Value}{fuel:Nat}{listed:Array Bool}{a:Act}{w:World}(hi:ops.toList[i]? =some oi)
    (hs:Region.noSelect ops=true)(hf:Region.free md ops listed i=true)(hr:(Region.ready md ops listed).contains i=true)(ht:Region.waitT2 md ops T i listed=true)
    (hQ:∀c a w,Q (.panic c) (a.put oi.dst v) w→Q (.panic c) a w)(hy:YieldsIf P ops S oi v a)(hS:S w)
    (h:wpAnyT P md ops Q S T fuel (listed.setIfInBounds i true) (a.put oi.dst v) w):wpAnyT P md ops Q S T (fuel+1) listed a w:=by
  rw[Array.getElem?_toList]at hi;simp only[Region.waitT2,Bool.and_eq_true,Bool.not_eq_true',List.all_eq_true,List.mem_range]at ht;refine wpAnyT_first2 hi (Region.noSelect_spec hs) hQ (fun j oj hj hne hTj=>?_) ht.1.1 fuel listed a w (fun j oj hj hl e he hb=>?_) (Region.free_spec hi hf) (by simpa using hr) hy hS h
  · have:=ht.1.2 j (Array.getElem?_eq_some_iff.1 hj).1;simp only[hTj,Bool.or_eq_true,Bool.not_true,Bool.false_eq_true,false_or,beq_iff_eq,hne]at this;exact⟨20,this⟩
  · have:=ht.2 j (Array.getElem?_eq_some_iff.1 hj).1;simp only[hl,hj,Bool.or_eq_true,Bool.not_true,Bool.false_eq_true,false_or,Array.all_eq_true']at this;have h2:=this e he;simpa[hb]using h2
end
def regionAt (id:Nat):Code→Option Code
  | .region i ops d=>if i=id then some (.region i ops d)else none
  | .loop c=>regionAt id c
  | .seq a b=>match regionAt id a with
    |some c=>some c
    |none=>regionAt id b
  | .block _ c=>regionAt id c
  | .scope c=>regionAt id c
  | .cond _ a b=>match regionAt id a with
    |some c=>some c
    |none=>regionAt id b
  |_=>none
def At (w:World)(b:Nat)(o:Obj):Prop:=w.heap[b]? =some o
theorem At.keep {w w':World}{b:Nat}{o:Obj}(h:At w b o)(hb:Below w.heap.size w w'):At w' b o:=(hb.block b (heap_lt h)).trans h
theorem At.new (w:World)(o:Obj):At (w.alloc o) w.heap.size o:=heap_new w o
end
section
open Go.RowKit
section
variable {P:Program} {ops:Array Oper} {Q:Exit→Act→World→Prop} {md:Region.Mode} {S:World→Prop} {T:Nat→Bool}
theorem wpAnyT_first3 {i:Nat}{oi:Oper}{v:Value}(hi:ops[i]? =some oi)(hsel:∀(j:Nat) (o:Oper) cs b,ops[j]? =some o→o.op≠ .select cs b)
    (hQ:∀c a w,Q (.panic c) (a.put oi.dst v) w→Q (.panic c) a w)
    (hTi:T i=false):
    ∀(fuel:Nat) (listed:Array Bool) (a:Act) (w:World),Region.shut md ops listed→
      (∀j oj,ops[j]? =some oj→j≠i→T j=true→listed.getD j true=true∨∃f,Region.reach md ops i f j=true)→
      (∀j oj,ops[j]? =some oj→j≠i→listed.getD j true=false→(∀e∈oj.after,Region.binds md e=true→e.on≠i)→oi.apart ops oj=true)→
      i∈Region.ready md ops listed→YieldsIf P ops S oi v a→S w→
      wpAnyT P md ops Q S T fuel (listed.setIfInBounds i true) (a.put oi.dst v) w→wpAnyT P md ops Q S T (fuel+1) listed a w:=by
  intro fuel;induction fuel with
  |zero=>
    intro listed a w _ _ _ hr hy hS H;refine⟨fun h=>(by rw[h]at hr;cases hr),fun j hj=>?_⟩;by_cases hji:j=i
    · subst hji;exact hy.wpOp hi hS ⟨fun _=>hS,H⟩
    · have:=ready_mono hj hji;rw[H.1]at this;cases this
  |succ fuel ih=>
    intro listed a w hsh hT hfree hr hy hS H;refine⟨fun h=>(by rw[h]at hr;cases hr),fun j hj=>?_⟩;by_cases hji:j=i
    · subst hji;exact hy.wpOp hi hS ⟨fun _=>hS,H⟩
    · have h1:=H.2 j (ready_mono hj hji);obtain⟨hjun,oj,hoj,hall⟩:=mem_ready.1 hj;have hnot:∀e∈oj.after,Region.binds md e=true→e.on≠i:=fun e he hb heq=>by
        have h1:=hall e he hb;have h0:=(mem_ready.1 hr).1;rw[heq]at h1;rcases Nat.lt_or_ge i listed.size with h'|h'
        · simp[h']at h0 h1;rw[h0]at h1;cases h1
        · simp[Array.getElem?_eq_none h']at h1
      have hTj:T j=false:=by
        cases ht:T j with
        |false=>rfl
        |true=>
          rcases hT j oj hoj hji ht with hlj|⟨f,hf⟩
          · rw[hlj]at hjun;cases hjun
          · have h2:=reach_listed (shut_next hsh hj) f j hf (getD_set_self _ _);rw[getD_set_ne true hji]at h2;have h0:=(mem_ready.1 hr).1;rw[h0]at h2;cases h2
      have h2:=wpOp_putIf hoj (hfree j oj hoj hji hjun hnot) (fun cs b=>hsel i oi cs b hi) (fun cs b=>hsel j oj cs b hoj) hQ hy h1;have hfree':∀k ok,ops[k]? =some ok→k≠i→(listed.setIfInBounds j true).getD k true=false→
          (∀e∈ok.after,Region.binds md e=true→e.on≠i)→oi.apart ops ok=true:=fun k ok hk hki hun hno=>by
        refine hfree k ok hk hki ?_ hno;by_cases hjk:j=k
        · subst hjk;exact hjun
        · rw[getD_set_ne true hjk]at hun;exact hun
      refine wpOp_mono (fun a' w' h3=>⟨fun _=>h3.2.1 hTj,ih (listed.setIfInBounds j true) a' w' (shut_next hsh hj) (fun k ok hk hki hTk=>(hT k ok hk hki hTk).imp (getD_set_true _ _ _) id) hfree' (ready_mono hr (Ne.symm hji)) h3.1 (h3.2.1 hTj) ?_⟩) h2;rw[Array.setIfInBounds_comm _ _ hji];exact h3.2.2
def Region.waitT3 (md:Region.Mode)(ops:Array Oper)(T:Nat→Bool)(i:Nat)(listed:Array Bool):Bool:=
  !T i&&((List.range ops.size).all fun j=> !T j||(listed.getD j true||(j==i||Region.reach md ops i 20 j)))&&
  (List.range ops.size).all fun j=> !(listed.getD j true)||match ops[j]? with
    |some oj=>oj.after.all fun e=> !(Region.binds md e)||listed.getD e.on true
    |none=>true
theorem wpAnyT_take3 {i:Nat}{oi:Oper}{v:Value}{fuel:Nat}{listed:Array Bool}{a:Act}{w:World}(hi:ops.toList[i]? =some oi)
    (hs:Region.noSelect ops=true)(hf:Region.free md ops listed i=true)(hr:(Region.ready md ops listed).contains i=true)(ht:Region.waitT3 md ops T i listed=true)
    (hQ:∀c a w,Q (.panic c) (a.put oi.dst v) w→Q (.panic c) a w)(hy:YieldsIf P ops S oi v a)(hS:S w)
    (h:wpAnyT P md ops Q S T fuel (listed.setIfInBounds i true) (a.put oi.dst v) w):wpAnyT P md ops Q S T (fuel+1) listed a w:=by
  rw[Array.getElem?_toList]at hi;simp only[Region.waitT3,Bool.and_eq_true,Bool.not_eq_true',List.all_eq_true,List.mem_range]at ht;refine wpAnyT_first3 hi (Region.noSelect_spec hs) hQ ht.1.1 fuel listed a w (fun j oj hj hl e he hb=>?_) (fun j oj hj hne hTj=>?_) (Region.free_spec hi hf) (by simpa using hr) hy hS h
  · have:=ht.2 j (Array.getElem?_eq_some_iff.1 hj).1;simp only[hl,hj,Bool.or_eq_true,Bool.not_true,Bool.false_eq_true,false_or,Array.all_eq_true']at this;have h2:=this e he;simpa[hb]using h2
  · have:=ht.1.2 j (Array.getElem?_eq_some_iff.1 hj).1;simp only[hTj,Bool.or_eq_true,Bool.not_true,Bool.false_eq_true,false_or,beq_iff_eq,hne]at this;rcases this with h1|h1
    · exact .inl h1
    · exact .inr ⟨20,h1⟩
end
end
section
open Go.RowKit
section
variable {P:Program} {ops:Array Oper} {Q:Exit→Act→World→Prop} {md:Region.Mode} {S:World→Prop} {T:Nat→Bool}
theorem wpAnyT_first4 {i:Nat}{oi:Oper}{v:Value}(hi:ops[i]? =some oi)(hsel:∀(j:Nat) (o:Oper) cs b,ops[j]? =some o→o.op≠ .select cs b)
    (hQ:∀c a w,Q (.panic c) (a.put oi.dst v) w→Q (.panic c) a w)
    (hTi:T i=true):
    ∀(fuel:Nat) (listed:Array Bool) (a:Act) (w:World),
      (∀j oj,ops[j]? =some oj→j≠i→listed.getD j true=false→(∀e∈oj.after,Region.binds md e=true→e.on≠i)→oi.apart ops oj=true)→
      i∈Region.ready md ops listed→YieldsIf P ops (fun _=>True) oi v a→
      wpAnyT P md ops Q S T fuel (listed.setIfInBounds i true) (a.put oi.dst v) w→wpAnyT P md ops Q S T (fuel+1) listed a w:=by
  intro fuel;induction fuel with
  |zero=>
    intro listed a w _ hr hy H;refine⟨fun h=>(by rw[h]at hr;cases hr),fun j hj=>?_⟩;by_cases hji:j=i
    · subst hji;exact hy.wpOp hi trivial ⟨fun e=>(by rw[hTi]at e;cases e),H⟩
    · have:=ready_mono hj hji;rw[H.1]at this;cases this
  |succ fuel ih=>
    intro listed a w hfree hr hy H;refine⟨fun h=>(by rw[h]at hr;cases hr),fun j hj=>?_⟩;by_cases hji:j=i
    · subst hji;exact hy.wpOp hi trivial ⟨fun e=>(by rw[hTi]at e;cases e),H⟩
    · have h1:=H.2 j (ready_mono hj hji);obtain⟨hjun,oj,hoj,hall⟩:=mem_ready.1 hj;have hnot:∀e∈oj.after,Region.binds md e=true→e.on≠i:=fun e he hb heq=>by
        have h1:=hall e he hb;have h0:=(mem_ready.1 hr).1;rw[heq]at h1;rcases Nat.lt_or_ge i listed.size with h'|h'
        · simp[h']at h0 h1;rw[h0]at h1;cases h1
        · simp[Array.getElem?_eq_none h']at h1
      have h2:=wpOp_putIf hoj (hfree j oj hoj hji hjun hnot) (fun cs b=>hsel i oi cs b hi) (fun cs b=>hsel j oj cs b hoj) hQ hy h1;have hfree':∀k ok,ops[k]? =some ok→k≠i→(listed.setIfInBounds j true).getD k true=false→
          (∀e∈ok.after,Region.binds md e=true→e.on≠i)→oi.apart ops ok=true:=fun k ok hk hki hun hno=>by
        refine hfree k ok hk hki ?_ hno;by_cases hjk:j=k
        · subst hjk;exact hjun
        · rw[getD_set_ne true hjk]at hun;exact hun
      refine wpOp_mono (fun a' w' h3=>⟨fun e=>h3.2.1 e,ih (listed.setIfInBounds j true) a' w' hfree' (ready_mono hr (Ne.symm hji)) h3.1 ?_⟩) h2;rw[Array.setIfInBounds_comm _ _ hji];exact h3.2.2
theorem wpAnyT_take4 {i:Nat}{oi:Oper}{v:Value}{fuel:Nat}{listed:Array Bool}{a:Act}{w:World}(hi:ops.toList[i]? =some oi)
    (hs:Region.noSelect ops=true)(hf:Region.free md ops listed i=true)(hr:(Region.ready md ops listed).contains i=true)(ht:T i=true)
    (hQ:∀c a w,Q (.panic c) (a.put oi.dst v) w→Q (.panic c) a w)(hy:YieldsIf P ops (fun _=>True) oi v a)
    (h:wpAnyT P md ops Q S T fuel (listed.setIfInBounds i true) (a.put oi.dst v) w):wpAnyT P md ops Q S T (fuel+1) listed a w:=by
  rw[Array.getElem?_toList]at hi;exact wpAnyT_first4 hi (Region.noSelect_spec hs) hQ ht fuel listed a w (Region.free_spec hi hf) (by simpa using hr) hy h
end
end
section
open Go.RowKit
theorem fr:(∀(l:List Value) (i:Nat) (v:Value),l.toArray.setIfInBounds i v=(l.set i v).toArray)∧(∀(x:Value) (l:List Value) (v:Value),(x::l).set 0 v=v::l)∧(∀(x:Value) (l:List Value) (i:Nat) (v:Value),(x::l).set (i+1) v=x::l.set i v)∧(∀a:Array Value,a.toList.toArray=a):=
  ⟨fun _ _ _=>by simp only[List.setIfInBounds_toArray],fun _ _ _=>rfl,fun _ _ _ _=>rfl,fun _=>by simp only[Array.toArray_toList]⟩
section
variable {P:Program} {md:Region.Mode} {ops:Array Oper} {Q:Exit→Act→World→Prop} {S:World→Prop} {T:Nat→Bool} {fuel:Nat} {listed:Array Bool} {a:Act} {w:World}
theorem u2 (i:Nat){oi:Oper}(v:Value){a':Act}(hi:ops.toList[i]? =some oi)(hy:YieldsIf P ops S oi v a)(h:wpAnyT P md ops Q S T fuel (listed.setIfInBounds i true) a' w)
    (hs:Region.noSelect ops=true:=by kernel_rfl)(hf:Region.free md ops listed i=true:=by kernel_rfl)(hr:(Region.ready md ops listed).contains i=true:=by kernel_rfl)(ht:Region.waitT2 md ops T i listed=true:=by kernel_rfl)
    (ha:a.put oi.dst v=a':=by simp only[Act.put,fr];rfl)(hQ:∀c a w,Q (.panic c) (a.put oi.dst v) w→Q (.panic c) a w:=by exact fun _ _ _ h=>h)(hS:S w:=by assumption):wpAnyT P md ops Q S T (fuel+1) listed a w:=wpAnyT_take2 hi hs hf hr ht hQ hy hS (ha▸h)
theorem u3 (i:Nat){oi:Oper}(v:Value){a':Act}(hi:ops.toList[i]? =some oi)(hy:YieldsIf P ops S oi v a)(h:wpAnyT P md ops Q S T fuel (listed.setIfInBounds i true) a' w)
    (hs:Region.noSelect ops=true:=by kernel_rfl)(hf:Region.free md ops listed i=true:=by kernel_rfl)(hr:(Region.ready md ops listed).contains i=true:=by kernel_rfl)(ht:Region.waitT3 md ops T i listed=true:=by kernel_rfl)
    (ha:a.put oi.dst v=a':=by simp only[Act.put,fr];rfl)(hQ:∀c a w,Q (.panic c) (a.put oi.dst v) w→Q (.panic c) a w:=by exact fun _ _ _ h=>h)(hS:S w:=by assumption):wpAnyT P md ops Q S T (fuel+1) listed a w:=wpAnyT_take3 hi hs hf hr ht hQ hy hS (ha▸h)
theorem t2 (i:Nat){oi:Oper}{v:Value}{a':Act}(h:wpAnyT P md ops Q S T fuel (listed.setIfInBounds i true) a' w)
    (hi:ops.toList[i]? =some oi:=by rfl)(hs:Region.noSelect ops=true:=by kernel_rfl)(hf:Region.free md ops listed i=true:=by kernel_rfl)(hr:(Region.ready md ops listed).contains i=true:=by kernel_rfl)(ht:Region.waitT2 md ops T i listed=true:=by kernel_rfl)
    (hy:YieldsIf P ops S oi v a:=by
      refine Or.inl ⟨by rfl,?_⟩;intro w' hSw;go_split_ands;go_simp;try rfl)
    (ha:a.put oi.dst v=a':=by simp only[Act.put,fr];rfl)
    (hQ:∀c a w,Q (.panic c) (a.put oi.dst v) w→Q (.panic c) a w:=by exact fun _ _ _ h=>h) (hS:S w:=by assumption):wpAnyT P md ops Q S T (fuel+1) listed a w:=wpAnyT_take2 hi hs hf hr ht hQ hy hS (ha▸h)
theorem t3 (i:Nat){oi:Oper}{v:Value}{a':Act}(h:wpAnyT P md ops Q S T fuel (listed.setIfInBounds i true) a' w)
    (hi:ops.toList[i]? =some oi:=by rfl)(hs:Region.noSelect ops=true:=by kernel_rfl)(hf:Region.free md ops listed i=true:=by kernel_rfl)(hr:(Region.ready md ops listed).contains i=true:=by kernel_rfl)(ht:Region.waitT3 md ops T i listed=true:=by kernel_rfl)
    (hy:YieldsIf P ops S oi v a:=by
      refine Or.inl ⟨by rfl,?_⟩;intro w' hSw;go_split_ands;go_simp;try rfl)
    (ha:a.put oi.dst v=a':=by simp only[Act.put,fr];rfl)
    (hQ:∀c a w,Q (.panic c) (a.put oi.dst v) w→Q (.panic c) a w:=by exact fun _ _ _ h=>h) (hS:S w:=by assumption):wpAnyT P md ops Q S T (fuel+1) listed a w:=wpAnyT_take3 hi hs hf hr ht hQ hy hS (ha▸h)
theorem rd1 (i:Nat){o:Oper}(ho:ops.toList[i]? =some o)
    (h:∀K':Act→World→Prop,Hid (∀a w,(T i=false→S w)→(S w→wpAnyT P md ops Q S T fuel (listed.setIfInBounds i true) a w)→K' a w)→if Region.wanted o (yielded ops a.tmps)=true then Oper.wp P o a w K' Q else K' (a.put o.dst undef) w)
    (hr:Region.ready md ops listed=[i]:=by kernel_rfl)(hT:T i=false:=by kernel_rfl):wpAnyT P md ops Q S T (fuel+1) listed a w:=
  wpAnyT_ready hr (List.cons_ne_nil _ _) (AllReadyT.cons ho h hT AllReadyT.nil)
end
theorem ent {P:Program}{C c:Code}{Q:Exit→Act→World→Prop}{a:Act}{w:World}(h:C=c)(hC:Code.wp P C Q a w):Code.wp P c Q a w:=h▸hC
theorem tR {w w' w'':World}(h:Hid (Below w.heap.size w w'))(hb:Below w'.heap.size w' w''):Hid (Below w.heap.size w w''):=Lib.hid (h.out.trans (hb.mono h.out.size))
theorem hid {p:Prop}(h:p):Hid p:=Lib.hid h
theorem kK {T:Bool}{S:World→Prop}{V K:Act→World→Prop}{a:Act}{w:World}(hK:Hid (∀a w,(T=false→S w)→(S w→V a w)→K a w))(hS:S w)(h:S w→V a w):K a w:=hK.out _ _ (fun _=>hS) h
theorem lR {ops:Array Oper}{rest:List Oper}{o:Oper}{a:Act}{w:World}{Q:Exit→Act→World→Prop}{g:Nat}{cs:Array Value}{t:TypeId}{d:TypeDesc}(ty:TypeId)(x:Tmp)(hg:At w g (.cells cs t))(hu:Tryz.prog.underlying ty=some d)
    (hi:(Tryz.prog.info? ty).map (·.size)=some cs.size)(h:wpList Tryz.prog ops Q rest (a.put o.dst (.agg cs)) w)(hgd:o.guard=none:=by rfl)(ho:o.op= .load ty (.tmp x):=by rfl)(hx:a.eval (.tmp x)= .pointer (some ⟨g,0,none⟩):=by rfl)
    (hd:d.isRow=true:=by rfl):wpList Tryz.prog ops Q (o::rest) a w:=wpList_load_row hgd ty (.tmp x) ho g hx t cs (0,0) d hg hu (by cases d<;>first|rfl|exact hd) hi h
theorem lM {ops:Array Oper}{rest:List Oper}{o:Oper}{a:Act}{w:World}{Q:Exit→Act→World→Prop}{d:TypeDesc}(ty:TypeId)(x:Tmp)(b k:Nat)(cs:Array Value)(hc:w.rangeAt b k cs.toList)(hu:Tryz.prog.underlying ty=some d)
    (hi:(Tryz.prog.info? ty).map (·.size)=some cs.toList.length)(h:wpList Tryz.prog ops Q rest (a.put o.dst (.agg cs.toList.toArray)) w)(hgd:o.guard=none:=by rfl)(ho:o.op= .load ty (.tmp x):=by rfl)(hx:a.eval (.tmp x)= .pointer (some ⟨b,k,none⟩):=by rfl)
    (hd:d.isRow=true:=by rfl):wpList Tryz.prog ops Q (o::rest) a w:=wpList_load_mid hgd ty (.tmp x) ho b k hx cs.toList d hc hu hd hi h
theorem sR {ops:Array Oper}{rest:List Oper}{o:Oper}{a:Act}{w:World}{Q:Exit→Act→World→Prop}{old:Array Value}{t:TypeId}(ty:TypeId)(x y:Tmp)(g:Nat)(cells:Array Value)(hg:w.heap[g]? =some (.cells old t (0,0)))
    (hi:(Tryz.prog.info? ty).map (·.size)=some cells.size)(h1:cells.all (·.oneCell')=true)(h:wpList Tryz.prog ops Q rest (a.put o.dst undef) (w.setRow g cells))(hgd:o.guard=none:=by rfl)(ho:o.op= .store ty (.tmp x) (.tmp y):=by rfl)
    (hx:a.eval (.tmp x)= .pointer (some ⟨g,0,none⟩):=by rfl)(hy:a.eval (.tmp y)= .agg cells:=by rfl)(hold:old.size=cells.size:=by rfl):wpList Tryz.prog ops Q (o::rest) a w:=wpList_store_row hgd ty (.tmp x) (.tmp y) ho g cells hx hy t old hg hi hold h1 h
theorem yM {ops:Array Oper}{S:World→Prop}{op:Oper}{a:Act}{d:TypeDesc}(ty:TypeId)(x:Tmp)(b o:Nat)(cs:Array Value)(hS:∀w,S w→w.rangeAt b o cs.toList)(hu:Tryz.prog.underlying ty=some d)
    (hi:(Tryz.prog.info? ty).map (·.size)=some cs.toList.length)(hw:Region.wanted op (yielded ops a.tmps)=true:=by rfl)(ho:op.op= .load ty (.tmp x):=by rfl)(hx:a.eval (.tmp x)= .pointer (some ⟨b,o,none⟩):=by rfl)(hd:d.isRow=true:=by rfl):
    YieldsIf Tryz.prog ops S op (.agg cs.toList.toArray) a:=yieldsIf_load_mid hw ty (.tmp x) ho b o hx cs.toList d hS hu hd hi
theorem reg {id:Nat}{ops:Array Oper}{Q:Exit→Act→World→Prop}{a:Act}{w:World}(S:World→Prop)(T:Nat→Bool)(hS:∀w',Below w.heap.size w w'→S w')
    (h:Hid (∀w',Below w.heap.size w w'→S w')→Hid (Below w.heap.size w w.drew)→S w.drew→wpAnyT Tryz.prog .any ops (NoPanic Q) S T ops.size (Array.replicate ops.size false) a w.drew):(Code.region id ops true).wp Tryz.prog Q a w:=
  wp_region_T T (by kernel_rfl) (hS _ (below_drew (Below.refl w.heap.size w))) (h (Lib.hid hS) (Lib.hid (below_drew (Below.refl w.heap.size w))))
theorem sV {ops:Array Oper}{rest:List Oper}{o:Oper}{a:Act}{w:World}{Q:Exit→Act→World→Prop}{old:Array Value}{t:TypeId}(ty:TypeId)(x y:Tmp)(cells:Array Value)(hi:(Tryz.prog.info? ty).map (·.size)=some cells.size)(h1:cells.all (·.oneCell')=true)
    (h:∀w',Below w.heap.size w w'→At w' w.heap.size (.cells cells t)→wpList Tryz.prog ops Q rest (a.put o.dst undef) w')(hgd:o.guard=none:=by rfl)(ho:o.op= .store ty (.tmp x) (.tmp y):=by rfl)
    (hx:a.eval (.tmp x)= .pointer (some ⟨w.heap.size,0,none⟩):=by rfl)(hy:a.eval (.tmp y)= .agg cells:=by rfl)(hold:old.size=cells.size:=by rfl):wpList Tryz.prog ops Q (o::rest) a (w.alloc (.cells old t)):=
  sR ty x y w.heap.size cells (heap_new _ _) hi h1 (h _ (((Below.refl w.heap.size w).alloc (Nat.le_refl _) (.cells old t)).trans ((upd_setRow _ w.heap.size cells).below (by rw[World.size_alloc];omega) fun k e=>by rw[e];exact Nat.le_refl _)) (setRow_heap _ _ _ _ t _ (heap_new w (.cells old t)))) hgd ho hx hy hold
theorem mH1 (w:World)(cs:Array Value)(t:TypeId):∃w1,Hid (w1=w.alloc (.cells cs t))∧Hid (Below w.heap.size w w1)∧Hid (At w1 w.heap.size (.cells cs t)):=
  ⟨_,Lib.hid rfl,Lib.hid ((Below.refl w.heap.size w).alloc (Nat.le_refl _) _),Lib.hid (heap_new w _)⟩
theorem dN {P:Program}{md:Region.Mode}{ops:Array Oper}{Q:Exit→Act→World→Prop}{S:World→Prop}{T:Nat→Bool}{fuel:Nat}{listed:Array Bool}{a:Act}{w:World}(h:Q .normal a w)(hr:Region.ready md ops listed=[]:=by kernel_rfl):
    wpAnyT P md ops (NoPanic Q) S T fuel listed a w:=wpAnyT_done hr (NoPanic.normal h) fuel
theorem aL {K:Act→World→Prop}{a:Act}{w:World}{o:Obj}(h:∀w',Below w.heap.size w w'→At w' w.heap.size o→K a w'):K a (w.alloc o):=h _ ((Below.refl w.heap.size w).alloc (Nat.le_refl _) o) (heap_new w o)
theorem aD {K:Act→World→Prop}{a:Act}{w:World}{o:Obj}(h:∀w',Below w.drew.heap.size w.drew w'→At w' w.heap.size o→K a w'):K a ((w.alloc o).drew):=h _ ((Below.refl w.drew.heap.size w.drew).alloc (Nat.le_refl _) o) (heap_new w o)
theorem rC {fn:Func}{p:Tmp}{ty:TypeId}{tmps:Array Value}{w:World}{g:Nat}{t:TypeId}{cs:Array Value}{d:TypeDesc}(hg:At w g (.cells cs t))(hu:Tryz.prog.underlying ty=some d)(hi:(Tryz.prog.info? ty).map (·.size)=some cs.size)
    (h:fn.results=#[.cell p ty]:=by rfl)(hp:tmps.getD p undef= .pointer (some ⟨g,0,none⟩):=by rfl)(hd:d.isRow=true:=by rfl):(results fn tmps).run Tryz.prog w= .ok (.agg cs) w:=
  results_cell_row h tmps w g t cs (0,0) d hp hg hu (by cases d<;>first|rfl|exact hd) hi
theorem row_of {ty:TypeId}(h:(Tryz.prog.underlying ty).map TypeDesc.isRow=some true):∃d,Tryz.prog.underlying ty=some d∧d.isRow=true:=Option.map_eq_some_iff.1 h
theorem lQ {ops:Array Oper}{rest:List Oper}{o:Oper}{a:Act}{w:World}{Q:Exit→Act→World→Prop}{g:Nat}{cs:Array Value}{t:TypeId}(ty:TypeId)(x:Tmp)(hg:At w g (.cells cs t))(h:wpList Tryz.prog ops Q rest (a.put o.dst (.agg cs)) w)(hgd:o.guard=none:=by rfl)
    (ho:o.op= .load ty (.tmp x):=by rfl)(hx:a.eval (.tmp x)= .pointer (some ⟨g,0,none⟩):=by rfl)(hi:(Tryz.prog.info? ty).map (·.size)=some cs.size:=by kernel_rfl)(hu:(Tryz.prog.underlying ty).map TypeDesc.isRow=some true:=by kernel_rfl):wpList Tryz.prog ops Q (o::rest) a w:=
  (row_of hu).elim fun _ k=>lR ty x hg k.1 hi h hgd ho hx k.2
theorem lN {ops:Array Oper}{rest:List Oper}{o:Oper}{a:Act}{w:World}{Q:Exit→Act→World→Prop}(ty:TypeId)(x:Tmp)(b k:Nat)(cs:Array Value)(hc:w.rangeAt b k cs.toList)(h:wpList Tryz.prog ops Q rest (a.put o.dst (.agg cs.toList.toArray)) w)(hgd:o.guard=none:=by rfl)
    (ho:o.op= .load ty (.tmp x):=by rfl)(hx:a.eval (.tmp x)= .pointer (some ⟨b,k,none⟩):=by rfl)(hi:(Tryz.prog.info? ty).map (·.size)=some cs.toList.length:=by kernel_rfl)(hu:(Tryz.prog.underlying ty).map TypeDesc.isRow=some true:=by kernel_rfl):wpList Tryz.prog ops Q (o::rest) a w:=
  (row_of hu).elim fun _ z=>lM ty x b k cs hc z.1 hi h hgd ho hx z.2
theorem yQ {ops:Array Oper}{S:World→Prop}{op:Oper}{a:Act}(ty:TypeId)(x:Tmp)(b o:Nat)(cs:Array Value)(hS:∀w,S w→w.rangeAt b o cs.toList)(hw:Region.wanted op (yielded ops a.tmps)=true:=by rfl)(ho:op.op= .load ty (.tmp x):=by rfl)
    (hx:a.eval (.tmp x)= .pointer (some ⟨b,o,none⟩):=by rfl)(hi:(Tryz.prog.info? ty).map (·.size)=some cs.toList.length:=by kernel_rfl)(hu:(Tryz.prog.underlying ty).map TypeDesc.isRow=some true:=by kernel_rfl):YieldsIf Tryz.prog ops S op (.agg cs.toList.toArray) a:=
  (row_of hu).elim fun _ z=>yM ty x b o cs hS z.1 hi hw ho hx z.2
theorem rQ {fn:Func}{p:Tmp}{ty:TypeId}{tmps:Array Value}{w:World}{g:Nat}{t:TypeId}{cs:Array Value}(hg:At w g (.cells cs t))(h:fn.results=#[.cell p ty]:=by rfl)(hp:tmps.getD p undef= .pointer (some ⟨g,0,none⟩):=by rfl)
    (hi:(Tryz.prog.info? ty).map (·.size)=some cs.size:=by kernel_rfl)(hu:(Tryz.prog.underlying ty).map TypeDesc.isRow=some true:=by kernel_rfl):(results fn tmps).run Tryz.prog w= .ok (.agg cs) w:=
  (row_of hu).elim fun _ z=>rC hg z.1 hi h hp z.2
noncomputable def rg (f:Func)(k:Nat):Code:=((f.body.bind (regionAt k)).getD .skip)
end
section
open Go.RowKit
def be (n size i:Nat):Nat:=n/2^(8*(size-1-i))%256
theorem be_lt (n size i:Nat):be n size i<256:=Nat.mod_lt _ (by omega)
def beL (n size:Nat):List UInt8:=(List.range size).map fun i=>b8 (be n size i)
theorem beL_len (n size:Nat):(beL n size).length=size:=by simp[beL]
structure SprR (w wr:World) (size:Nat) (g:Nat→Nat):Prop where
 b:Blk wr w.heap.size 5 size g
 u:Below w.heap.size w wr
theorem SprR.start (w:World)(size:Nat):SprR w (w.alloc (.cells (arr size fun _=>0) 5)) size fun _=>0:=
 ⟨Blk.new w 5 size fun _=>0,(Below.refl _ _).alloc (Nat.le_refl _) _⟩
theorem SprR.next {w wr:World}{size:Nat}{F G:Nat→Nat}{n:Nat}(h:SprR w wr size (upTo F G n)){x:Nat}(hx:x=F n):SprR w (wr.setCell ⟨w.heap.size,n,none⟩ (.int .u8 x)) size (upTo F G (n+1)):=by
 subst hx;refine⟨?_,h.u.setCell (p:=⟨w.heap.size,n,none⟩) (Nat.le_refl _) _⟩;have:=h.b.set n (F n);rw[upTo_put]at this;exact this
theorem spread_u8 (n:Nat)(w:World)(hn:n<256):
 Rv 382 #[.int .u8 n,.int .i64 1] w (.string (st (beL n 1))):=by
 have HS:=hid (SprR.start w 1);have hmk:∀w:World,(Instr.makeSlice 113 (.int .i64 1) (.int .i64 1)).run Tryz.prog w= .ok (.slice (some ⟨w.heap.size,0,none⟩) 1 1) (w.alloc (.cells (arr 1 fun _=>0) 5)):=fun w=>make_any 1 (by decide) w;go_enter Tryz.func382,Tryz.ntmps382;go_upto_region 2 with(fail);generalize World.alloc w _=w1 at*;clear hmk;go_wp2_with fail;go_loopw [6,11] (fun _ i wr=>∃k:Nat,k≤1∧i= .int .i64 k∧SprR w wr 1 (upTo (be n 1) (fun _=>0) k)) (fun _ i _=>1-(intOf i).toNat);case atStart=>exact⟨0,by omega,rfl,by rw[upTo_zero];exact HS.out⟩
 case round=>
  obtain⟨k,hk,rfl,hr⟩:=hrel;have HR:=hid hr;clear HS;by_cases hk4:k<1
  · obtain rfl:k=0:=by omega
    have hq:(n:Int)%256=((be n 1 0:Nat):Int):=by unfold be;simp
    have hf:=hr.b.free 0;have hcl:=hr.b.cell (j:=0) hk4;generalize upTo (be n 1) (fun _=>0) 0 0=old at hcl;clear hr;go_wp2_with fail;go_roundw;case rel=>exact⟨1,by omega,by go_num,HR.out.next (by have:n<256:=hn;unfold be;simp;omega)⟩
    case measure=>simp[intOf]
  · have hk9:k=1:=by omega
    subst hk9;have hcv:=conv_back 1 _ ⟨w.heap.size,0,none⟩ 1 (be n 1) (be_lt n 1) (cells_add (hr.b.congr fun j hj=>upTo_all (be n 1) (fun _=>0) 1 j hj));clear hr;go_wp2_with fail;go_ret;exact⟨rfl,HR.out.u⟩
theorem spread_u16 (n:Nat)(w:World)(hn:n<65536):
 Rv 383 #[.int .u16 n,.int .i64 2] w (.string (st (beL n 2))):=by
 have HS:=hid (SprR.start w 2);have hmk:∀w:World,(Instr.makeSlice 113 (.int .i64 2) (.int .i64 2)).run Tryz.prog w= .ok (.slice (some ⟨w.heap.size,0,none⟩) 2 2) (w.alloc (.cells (arr 2 fun _=>0) 5)):=fun w=>make_any 2 (by decide) w;go_enter Tryz.func383,Tryz.ntmps383;go_upto_region 2 with(fail);generalize World.alloc w _=w1 at*;clear hmk;go_wp2_with fail;go_loopw [6,11] (fun _ i wr=>∃k:Nat,k≤2∧i= .int .i64 k∧SprR w wr 2 (upTo (be n 2) (fun _=>0) k)) (fun _ i _=>2-(intOf i).toNat);case atStart=>exact⟨0,by omega,rfl,by rw[upTo_zero];exact HS.out⟩
 case round=>
  obtain⟨k,hk,rfl,hr⟩:=hrel;have HR:=hid hr;clear HS;by_cases hk4:k<2
  · have hk0:(k:Int)<2:=by omega
    obtain⟨c,hc⟩:∃c,c=8*(2-1-k):=⟨_,rfl⟩;have hw:8*(1-(k:Int))=(c:Int):=by omega
    have hc9:(c:Int)<64:=by omega
    have hq:((n:Int)/2^c)%256=((be n 2 k:Nat):Int):=by unfold be;rw[hc];simp
    have hq2:(((n/2^c:Nat):Int))%256=((be n 2 k:Nat):Int):=by unfold be;rw[hc];simp
    have hf:=hr.b.free k;have hcl:=hr.b.cell (j:=k) hk4;generalize upTo (be n 2) (fun _=>0) k k=old at hcl;clear hr hc;go_wp2_with fail;go_roundw;case rel=>exact⟨k+1,by omega,by go_num,HR.out.next rfl⟩
    case measure=>simp[intOf];omega
  · have hk9:k=2:=by omega
    subst hk9;have hcv:=conv_back 2 _ ⟨w.heap.size,0,none⟩ 2 (be n 2) (be_lt n 2) (cells_add (hr.b.congr fun j hj=>upTo_all (be n 2) (fun _=>0) 2 j hj));clear hr;go_wp2_with fail;go_ret;exact⟨rfl,HR.out.u⟩
theorem spread_u32 (n:Nat)(w:World)(hn:n<4294967296):
 Rv 384 #[.int .u32 n,.int .i64 4] w (.string (st (beL n 4))):=by
 have HS:=hid (SprR.start w 4);have hmk:∀w:World,(Instr.makeSlice 113 (.int .i64 4) (.int .i64 4)).run Tryz.prog w= .ok (.slice (some ⟨w.heap.size,0,none⟩) 4 4) (w.alloc (.cells (arr 4 fun _=>0) 5)):=fun w=>make_any 4 (by decide) w;go_enter Tryz.func384,Tryz.ntmps384;go_upto_region 2 with(fail);generalize World.alloc w _=w1 at*;clear hmk;go_wp2_with fail;go_loopw [6,11] (fun _ i wr=>∃k:Nat,k≤4∧i= .int .i64 k∧SprR w wr 4 (upTo (be n 4) (fun _=>0) k)) (fun _ i _=>4-(intOf i).toNat);case atStart=>exact⟨0,by omega,rfl,by rw[upTo_zero];exact HS.out⟩
 case round=>
  obtain⟨k,hk,rfl,hr⟩:=hrel;have HR:=hid hr;clear HS;by_cases hk4:k<4
  · have hk0:(k:Int)<4:=by omega
    obtain⟨c,hc⟩:∃c,c=8*(4-1-k):=⟨_,rfl⟩;have hw:8*(3-(k:Int))=(c:Int):=by omega
    have hc9:(c:Int)<64:=by omega
    have hq:((n:Int)/2^c)%256=((be n 4 k:Nat):Int):=by unfold be;rw[hc];simp
    have hq2:(((n/2^c:Nat):Int))%256=((be n 4 k:Nat):Int):=by unfold be;rw[hc];simp
    have hf:=hr.b.free k;have hcl:=hr.b.cell (j:=k) hk4;generalize upTo (be n 4) (fun _=>0) k k=old at hcl;clear hr hc;go_wp2_with fail;go_roundw;case rel=>exact⟨k+1,by omega,by go_num,HR.out.next rfl⟩
    case measure=>simp[intOf];omega
  · have hk9:k=4:=by omega
    subst hk9;have hcv:=conv_back 4 _ ⟨w.heap.size,0,none⟩ 4 (be n 4) (be_lt n 4) (cells_add (hr.b.congr fun j hj=>upTo_all (be n 4) (fun _=>0) 4 j hj));clear hr;go_wp2_with fail;go_ret;exact⟨rfl,HR.out.u⟩
theorem spread_u64 (n:Nat)(w:World)(hn:n<18446744073709551616):
 Rv 385 #[.int .u64 n,.int .i64 8] w (.string (st (beL n 8))):=by
 have HS:=hid (SprR.start w 8);have hmk:∀w:World,(Instr.makeSlice 113 (.int .i64 8) (.int .i64 8)).run Tryz.prog w= .ok (.slice (some ⟨w.heap.size,0,none⟩) 8 8) (w.alloc (.cells (arr 8 fun _=>0) 5)):=fun w=>make_any 8 (by decide) w;go_enter Tryz.func385,Tryz.ntmps385;go_upto_region 2 with(fail);generalize World.alloc w _=w1 at*;clear hmk;go_wp2_with fail;go_loopw [6,11] (fun _ i wr=>∃k:Nat,k≤8∧i= .int .i64 k∧SprR w wr 8 (upTo (be n 8) (fun _=>0) k)) (fun _ i _=>8-(intOf i).toNat);case atStart=>exact⟨0,by omega,rfl,by rw[upTo_zero];exact HS.out⟩
 case round=>
  obtain⟨k,hk,rfl,hr⟩:=hrel;have HR:=hid hr;clear HS;by_cases hk4:k<8
  · have hk0:(k:Int)<8:=by omega
    obtain⟨c,hc⟩:∃c,c=8*(8-1-k):=⟨_,rfl⟩;have hw:8*(7-(k:Int))=(c:Int):=by omega
    have hc9:(c:Int)<64:=by omega
    have hq:((n:Int)/2^c)%256=((be n 8 k:Nat):Int):=by unfold be;rw[hc];simp
    have hq2:(((n/2^c:Nat):Int))%256=((be n 8 k:Nat):Int):=by unfold be;rw[hc];simp
    have hf:=hr.b.free k;have hcl:=hr.b.cell (j:=k) hk4;generalize upTo (be n 8) (fun _=>0) k k=old at hcl;clear hr hc;go_wp2_with fail;go_roundw;case rel=>exact⟨k+1,by omega,by go_num,HR.out.next rfl⟩
    case measure=>simp[intOf];omega
  · have hk9:k=8:=by omega
    subst hk9;have hcv:=conv_back 8 _ ⟨w.heap.size,0,none⟩ 8 (be n 8) (be_lt n 8) (cells_add (hr.b.congr fun j hj=>upTo_all (be n 8) (fun _=>0) 8 j hj));clear hr;go_wp2_with fail;go_ret;exact⟨rfl,HR.out.u⟩
def hd (m n:Nat):List UInt8:=
 if n<24 then[b8 (32*m+n)]else if n<256 then b8 (32*m+24)::beL n 1 else if n<65536 then b8 (32*m+25)::beL n 2
 else if n<4294967296 then b8 (32*m+26)::beL n 4 else b8 (32*m+27)::beL n 8
theorem or5:∀m:Nat,m<8→∀n:Nat,n<32→bits .or .u8 ((32*m:Nat):Int) (n:Int)=((32*m+n:Nat):Int):=by decide+kernel
theorem one_text (W1:World)(x:Nat)(hx:x<256)(b:Nat)(hc:W1.heap[b]? =some (.cells #[.int .u8 x] 5 (0,0))):(convert 113 9 (.slice (some ⟨b,0,none⟩) 1 1)).run Tryz.prog W1= .ok (.string (st [b8 x])) W1:=
 conv_back 1 W1 ⟨b,0,none⟩ 1 (fun _=>x) (fun _=>hx) (cells_add (f:=fun _=>x) hc)
theorem head_small (m n:Nat)(w:World)(hm:m<8)(hn:n<24):
 Rv 332 #[.int .i64 m,.int .u64 n] w (.string (st (hd m n))):=by
 have hm0:¬(7:Int)<(m:Int):=by omega
 have hm1:(m:Int)≤7:=by omega
 have hn0:(n:Int)<24:=by omega
 obtain⟨c,hc⟩:∃c,c=32*m:=⟨_,rfl⟩;have hcm:(m:Int)*32=(c:Int):=by omega
 have hcl:(c:Int)<256:=by omega
 have hor:=or5 m hm n (by omega);rw[←hc]at hor;have HH:=hid (show hd m n=[b8 (c+n)]from by unfold hd;rw[if_pos hn,hc]);have hcn:c+n<256:=by omega
 generalize c+n=d at*;have hcv:=one_text (w.alloc (.cells #[.int .u8 (d:Nat)] 5)) d hcn w.heap.size (heap_new w _);have HU:=hid ((Below.refl w.heap.size w).alloc (Nat.le_refl _) (.cells #[.int .u8 (d:Nat)] 5));clear hm hn hc hcn;go_enter Tryz.func332,Tryz.ntmps332;go_wp2_with fail;go_ret;exact⟨by rw[HH.out];rfl,HU.out⟩
end
end Go.Proofs.YtlhlmflacdeafaaGreatDoor
