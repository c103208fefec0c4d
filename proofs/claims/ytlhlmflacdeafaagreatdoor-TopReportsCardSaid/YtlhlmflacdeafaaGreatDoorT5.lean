/-
  A part of the walk of TopReports.
-/
import Derived.Test.YtlhlmflacdeafaaGreatDoorT4
import Derived.Maps.OwnSet
import Derived.Shelf.Strings.Repeat
import Derived.Ground.SlgnProg
import Derived.Ground.SlgfProg
import Derived.Ground.SlgqProg
import Derived.Shelf.SlicesE.Clone
import Derived.Shelf.SlicesQ.IndexFunc
import Derived.Shelf.SlicesQ.Contains
import Derived.Test.YtlhlmflacdeafaaGreatDoorRows
set_option maxRecDepth 100000
set_option maxHeartbeats 4000000
set_option linter.unusedVariables false
set_option linter.unusedSimpArgs false
namespace Go.Proofs.YtlhlmflacdeafaaGreatDoor
section
open Go.RowKit
theorem results_row_tmp {P:Program}{fn:Func}{p u:Tmp}{ty:TypeId}(h:fn.results=#[.cell p ty,.tmp u])(tmps:Array Value)(w:World)(g:Nat)(t:TypeId)(cs:Array Value)(fr:Nat×Nat)(d:TypeDesc)
 (hp:tmps.getD p undef= .pointer (some ⟨g,0,none⟩))(hg:w.heap[g]? =some (.cells cs t fr))
 (hu:P.underlying ty=some d)(hd:(match d with| .struct _| .array _ _=>true|_=>false)=true)(hi:(P.info? ty).map (·.size)=some cs.size):
 (results fn tmps).run P w= .ok (.tuple #[.agg cs,tmps.getD u undef]) w:=by
 rw[results_cell_tmp h,hp];simp[asAddr,run_loadVar_row w g t ty cs fr d hg hu hd hi,Result.andThen]
theorem results_row_tmp2 {P:Program}{fn:Func}{p u v:Tmp}{ty:TypeId}(h:fn.results=#[.cell p ty,.tmp u,.tmp v])(tmps:Array Value)(w:World)(g:Nat)(t:TypeId)(cs:Array Value)(fr:Nat×Nat)(d:TypeDesc)
 (hp:tmps.getD p undef= .pointer (some ⟨g,0,none⟩))(hg:w.heap[g]? =some (.cells cs t fr))
 (hu:P.underlying ty=some d)(hd:(match d with| .struct _| .array _ _=>true|_=>false)=true)(hi:(P.info? ty).map (·.size)=some cs.size):
 (results fn tmps).run P w= .ok (.tuple #[.agg cs,tmps.getD u undef,tmps.getD v undef]) w:=by
 have hp':tmps[p]?.getD undef= .pointer (some ⟨g,0,none⟩):=by simpa using hp
 simp[results,h,hp',asAddr,run_loadVar_row w g t ty cs fr d hg hu hd hi]
theorem varnew (w:World)(zs cs:Array Value)(t:TypeId):Below w.heap.size w ((w.alloc (.cells zs t)).setRow w.heap.size cs)∧At ((w.alloc (.cells zs t)).setRow w.heap.size cs) w.heap.size (.cells cs t):=
 ⟨((Below.refl w.heap.size w).alloc (Nat.le_refl _) (.cells zs t)).trans ((upd_setRow _ w.heap.size cs).below (by rw[World.size_alloc];omega) fun k e=>by rw[e];exact Nat.le_refl _),At.row (heap_new w (.cells zs t)) cs⟩
def eZ:Eid:=⟨0,[],0,0⟩
def pZ:Prim:=⟨0,0,eZ,eZ,eZ,0,0,0⟩
def kZ:Blk5:=⟨0,0,0,0,[]⟩
theorem zero34 (w:World):(zeroValue 34).run Tryz.prog w= .ok (.agg (ec eZ)) w:=by kernel_rfl
theorem zero40 (w:World):(zeroValue 40).run Tryz.prog w= .ok (.agg (prc pZ)) w:=by kernel_rfl
theorem zero43 (w:World):(zeroValue 43).run Tryz.prog w= .ok (.agg (bunc pZ nS)) w:=by kernel_rfl
theorem zero136 (w:World):(zeroValue 136).run Tryz.prog w= .ok (.agg (blc kZ)) w:=by kernel_rfl
theorem size34 {cs:Array Value}(h:cs.size=4):(Tryz.prog.info? 34).map (·.size)=some cs.size:=by rw[h];kernel_rfl
theorem size40 {cs:Array Value}(h:cs.size=19):(Tryz.prog.info? 40).map (·.size)=some cs.size:=by rw[h];kernel_rfl
theorem size43 {cs:Array Value}(h:cs.size=20):(Tryz.prog.info? 43).map (·.size)=some cs.size:=by rw[h];kernel_rfl
theorem size136 {cs:Array Value}(h:cs.size=5):(Tryz.prog.info? 136).map (·.size)=some cs.size:=by rw[h];kernel_rfl
theorem ipn_form {e:Eid}(h:e.ipn):∃n m,e=⟨2,[],n,m⟩∧n≤4294967295∧m≤4294967295:=by
 obtain⟨k,s,n,m⟩:=e;obtain⟨h1,h2,h3,h4⟩:=h;have h1:k=2:=h1;have h2:s=[]:=h2;subst h1 h2;exact⟨n,m,rfl,h3,h4⟩
theorem ipn_cells {w:World}{b n m:Nat}(h:At w b (.cells (ec ⟨2,[],n,m⟩) 34)):
 w.cell? ⟨b,0,none⟩=some (.int .i64 2)∧w.cell? ⟨b,1,none⟩=some (.string ⟨#[]⟩)∧w.cell? ⟨b,2,none⟩=some (.int .u64 n)∧w.cell? ⟨b,3,none⟩=some (.int .u64 m):=ec_cells h
theorem none_cells {w:World}{b:Nat}(h:At w b (.cells (ec eNone) 34)):
 w.cell? ⟨b,0,none⟩=some (.int .i64 1)∧w.cell? ⟨b,1,none⟩=some (.string ⟨#[110,111,110,101]⟩)∧w.cell? ⟨b,2,none⟩=some (.int .u64 0)∧w.cell? ⟨b,3,none⟩=some (.int .u64 0):=ec_cells h
def Kd (w:World):List (Array Value)→List Itm→Prop
 | [],[]=>True
 |c::cs,x::l=>c.size=5∧IsI w c x∧Kd w cs l
 |_,_=>False
theorem Kd.isL {w:World}{b:Nat}:∀{css:List (Array Value)} {l:List Itm} (off:Nat),Kd w css l→w.rangeAt b off (css.flatMap (·.toList))→IsL w b off l
 | [],[],_,_,_=>trivial
 |c::cs,_::_,off,⟨h1,h2,h3⟩,hr=>by
  refine⟨⟨c,h1,fun j v hj=>hr j v ?_,h2⟩,Kd.isL (off+5) h3 fun j v hj=>?_⟩
  · rw[List.flatMap_cons,List.getElem?_append_left (List.getElem?_eq_some_iff.1 hj).1];exact hj
  · rw[show off+5+j=off+(5+j) by omega];refine hr (5+j) v ?_;rw[List.flatMap_cons,List.getElem?_append_right (by simp[h1])];simpa[h1]using hj
 | [],_::_,_,h,_=>h.elim
 |_::_,[],_,h,_=>h.elim
theorem at_range {w:World}{b:Nat}{cs:Array Value}{t:TypeId}(h:At w b (.cells cs t)):w.rangeAt b 0 cs.toList:=fun j v hj=>by
 rw[Nat.zero_add,cell_of_row w b j cs t (0,0) h, ←Array.getElem?_toList];exact hj
theorem isArr {w:World}{b:Nat}{cs:Array Value}{t:TypeId}(h:At w b (.cells cs t))(css:List (Array Value))(l:List Itm)(he:cs.toList=css.flatMap (·.toList))(hk:Kd w css l)(n c:Nat)(hn:n=l.length)(hc:l.length≤c)(o:Bool):
 IsI w (ic 4 0 [] (.slice (some ⟨b,0,none⟩) n c) o) (.arr o l):=by
 rw[IsI];exact⟨_,c,by rw[hn],hc,.inr ⟨b,0,rfl,hk.isL 0 (by rw[←he];exact at_range h)⟩⟩
theorem At.within {w w':World}{lo hi b:Nat}{o:Obj}(h:At w b o)(hb:lo≤b)(hb2:b<hi)(hw:∀k,lo≤k→k<hi→w'.heap[k]? =w.heap[k]?):At w' b o:=(hw b hb hb2).trans h
theorem At.setc {w:World}{b:Nat}{cs:Array Value}{t:TypeId}(h:At w b (.cells cs t))(i:Nat)(v:Value):At (w.setCell ⟨b,i,none⟩ v) b (.cells (cs.setIfInBounds i v) t):=heap_setCell_same w b i cs t v h
theorem cells5 {w:World}{b o k n:Nat}{s:List UInt8}{l:Value}{f:Bool}(h:w.rangeAt b o (ic k n s l f).toList):
 w.cell? ⟨b,o,none⟩=some (.int .i64 k)∧w.cell? ⟨b,o+1,none⟩=some (.int .u64 n)∧w.cell? ⟨b,o+2,none⟩=some (.string (st s))∧w.cell? ⟨b,o+3,none⟩=some l∧w.cell? ⟨b,o+4,none⟩=some (.bool f):=⟨h 0 _ rfl,h 1 _ rfl,h 2 _ rfl,h 3 _ rfl,h 4 _ rfl⟩
theorem eitm_ipn {w:World}{n m g h:Nat}(hg:At w g (.cells #[.int .i64 0,.int .u64 n,.string (st []),nS,.bool false,.int .i64 0,.int .u64 m,.string (st []),nS,.bool false] 93))
 (hh:At w h (.cells #[.int .i64 0,.int .u64 2,.string (st []),nS,.bool false,.int .i64 4,.int .u64 0,.string (st []),.slice (some ⟨g,0,none⟩) 2 2,.bool false] 93)):
 IsI w (ic 4 0 [] (.slice (some ⟨h,0,none⟩) 2 2) false) (eitm ⟨2,[],n,m⟩):=
 isArr hh [ic 0 2 [] nS false,ic 4 0 [] (.slice (some ⟨g,0,none⟩) 2 2) false] [.num 2,.arr false [.num n,.num m]] rfl
  ⟨rfl,rfl,rfl,isArr hg [ic 0 n [] nS false,ic 0 m [] nS false] [.num n,.num m] rfl ⟨rfl,rfl,rfl,rfl,trivial⟩ 2 2 rfl (Nat.le_refl 2) false,trivial⟩ 2 2 rfl (Nat.le_refl 2) false
theorem eitm_none {w:World}{h:Nat}(hh:At w h (.cells #[.int .i64 0,.int .u64 1,.string (st []),nS,.bool false,.int .i64 0,.int .u64 0,.string (st []),nS,.bool false] 93)):
 IsI w (ic 4 0 [] (.slice (some ⟨h,0,none⟩) 2 2) false) (eitm eNone):=
 isArr hh [ic 0 1 [] nS false,ic 0 0 [] nS false] [.num 1,.num 0] rfl ⟨rfl,rfl,rfl,rfl,trivial⟩ 2 2 rfl (Nat.le_refl 2) false
end
section
open Go.RowKit
theorem rT {fn:Func}{p u:Tmp}{ty:TypeId}{tmps:Array Value}{w:World}{g:Nat}{t:TypeId}{cs:Array Value}{d:TypeDesc}(hg:At w g (.cells cs t))(hu:Tryz.prog.underlying ty=some d)(hi:(Tryz.prog.info? ty).map (·.size)=some cs.size)
    (h:fn.results=#[.cell p ty,.tmp u]:=by rfl)(hp:tmps.getD p undef= .pointer (some ⟨g,0,none⟩):=by rfl)(hd:d.isRow=true:=by rfl):(results fn tmps).run Tryz.prog w= .ok (.tuple #[.agg cs,tmps.getD u undef]) w:=
  results_row_tmp h tmps w g t cs (0,0) d hp hg hu (by cases d<;>first|rfl|exact hd) hi
theorem mH2 (w:World)(cs:Array Value)(t:TypeId)(ds:Array Value)(t2:TypeId):∃w1,Hid (w1=(w.alloc (.cells cs t)).alloc (.cells ds t2))∧Hid (Below w.heap.size w w1)∧Hid (At w1 w.heap.size (.cells cs t))∧Hid (At w1 (w.heap.size+1) (.cells ds t2)):=by
  obtain⟨w1,h1,h2,h3,h4⟩:=mk2 w cs t ds t2;exact⟨w1,Lib.hid h1,Lib.hid h2,Lib.hid h3,Lib.hid h4⟩
theorem rU {fn:Func}{p u:Tmp}{ty:TypeId}{tmps:Array Value}{w:World}{g:Nat}{t:TypeId}{cs:Array Value}(hg:At w g (.cells cs t))(h:fn.results=#[.cell p ty,.tmp u]:=by rfl)(hp:tmps.getD p undef= .pointer (some ⟨g,0,none⟩):=by rfl)
    (hi:(Tryz.prog.info? ty).map (·.size)=some cs.size:=by kernel_rfl)(hu:(Tryz.prog.underlying ty).map TypeDesc.isRow=some true:=by kernel_rfl):(results fn tmps).run Tryz.prog w= .ok (.tuple #[.agg cs,tmps.getD u undef]) w:=
  (row_of hu).elim fun _ z=>rT hg z.1 hi h hp z.2
end
section
open Go.RowKit
def hopsI (c:Nat):Itm:= .arr false [.num 30,.num c]
def ageB (crc n:Nat):Blk5:=⟨7,2,0,crc,enc (.num n)⟩
def hopsB (crc c:Nat):Blk5:=⟨10,3,0,crc,enc (hopsI c)⟩
def prevB (num i:Nat):Blk5:=⟨6,num,0,0,enc (eitm (nd i))⟩
def payB (crc:Nat)(d:List UInt8):Blk5:=⟨1,1,0,crc,d⟩
structure Fam where
 p:Prim
 crc:Nat
 age:Nat
 hops:Option Nat
 prev:Option Nat
 data:List UInt8
def Fam.pnum (f:Fam):Nat:=if f.hops.isSome then 4 else 3
def Fam.pre (f:Fam):List Blk5:=ageB f.crc f.age::((match f.hops with|none=>[]|some c=>[hopsB f.crc c])++(match f.prev with|none=>[]|some i=>[prevB f.pnum i]))
def Fam.l (f:Fam):List Blk5:=f.pre++[payB f.crc f.data]
def Fam.bun (f:Fam):Bun:=⟨f.p,f.l⟩
structure Fam.ok (f:Fam):Prop where
 p:f.p.ok
 time:1≤f.p.time
 crc:f.crc≤1
 age:f.age≤1099511627776
 hops:∀c,f.hops=some c→c≤255
 prev:∀i,f.prev=some i→i≤100
 data:f.data.length≤400
theorem num_len (n:Nat):(enc (.num n)).length≤9:=by rw[enc];exact hd_len 0 n
theorem hopsI_len (c:Nat):(enc (hopsI c)).length≤27:=by
 have h1:=hd_len 4 (0+1+1);have h2:=hd_len 0 30;have h3:=hd_len 0 c;simp only[hopsI,enc,encs,List.length_append,List.length_nil,List.length_cons,if_false,Bool.false_eq_true];omega
theorem ageB_ok (crc n:Nat)(h:crc≤1):(ageB crc n).ok:=⟨by simp[ageB],by simp[ageB],rfl,h,Nat.le_trans (num_len n) (by decide),by simp[ageB]⟩
theorem hopsB_ok (crc n:Nat)(h:crc≤1):(hopsB crc n).ok:=⟨by simp[hopsB],by simp[hopsB],rfl,h,Nat.le_trans (hopsI_len n) (by decide),by simp[hopsB]⟩
theorem prevB_ok (num i:Nat)(h:2≤num)(h2:num≤100):(prevB num i).ok:=⟨by simp[prevB],by simp[prevB];omega,rfl,by simp[prevB],Nat.le_trans (eitm_len _) (by decide),by simp[prevB];omega⟩
theorem payB_ok (crc:Nat)(d:List UInt8)(h:crc≤1)(h2:d.length≤1000):(payB crc d).ok:=⟨by simp[payB],by simp[payB],rfl,h,h2,by simp[payB]⟩
theorem Fam.bun_ok {f:Fam}(h:f.ok):f.bun.ok:=by
 have hp:=pitm_len f.p;have h1:=h.crc;have h2:=h.data;have ha:=bitm_len (ageB f.crc f.age);have ha2:=num_len f.age;have hy:=bitm_len (payB f.crc f.data);have hdp:(payB f.crc f.data).data.length=f.data.length:=rfl;have hda:(ageB f.crc f.age).data.length=(enc (.num f.age)).length:=rfl;have hh:∀c,(enc (bitm (hopsB f.crc c))).length≤107:=fun c=>by
  have h3:=bitm_len (hopsB f.crc c);have h4:=hopsI_len c;have:(hopsB f.crc c).data.length=(enc (hopsI c)).length:=rfl;omega
 have hv:∀n i,(enc (bitm (prevB n i))).length≤134:=fun n i=>by
  have h3:=bitm_len (prevB n i);have h4:=eitm_len (nd i);have:(prevB n i).data.length=(enc (eitm (nd i))).length:=rfl;omega
 have k1:=ageB_ok f.crc f.age h1;have k2:=payB_ok f.crc f.data h1 (by omega);refine⟨h.p,?_,h.time,?_,?_,?_,⟨f.pre,payB f.crc f.data,rfl,rfl⟩,?_⟩;all_goals
  obtain⟨p,crc,age,hops,prev,data⟩:=f
  rcases hops with _|c<;>rcases prev with _|i
 all_goals simp only[Fam.bun,Fam.l,Fam.pre,Fam.pnum,Option.isSome_none,Option.isSome_some,if_true,if_false,Bool.false_eq_true,List.nil_append,List.cons_append,List.append_nil]at*
 all_goals first
  |(intro x hx;simp only[List.mem_cons,List.not_mem_nil,or_false]at hx;rcases hx with rfl|rfl|rfl|rfl<;>first|exact k1|exact k2|exact hopsB_ok _ _ h1|exact prevB_ok _ _ (by decide) (by decide))
  |(intro x hx;simp only[List.mem_cons,List.not_mem_nil,or_false]at hx;rcases hx with rfl|rfl|rfl<;>first|exact k1|exact k2|exact hopsB_ok _ _ h1|exact prevB_ok _ _ (by decide) (by decide))
  |(intro x hx;simp only[List.mem_cons,List.not_mem_nil,or_false]at hx;rcases hx with rfl|rfl<;>first|exact k1|exact k2)
  |(simp[ageB,hopsB,prevB,payB];done)
  |(have q1:=hh (c:=0);simp only[Bun.enc,Bun.itm,enc,encs,List.map_cons,List.map_nil,List.length_append,List.length_cons,List.length_nil,if_true];have e1:=hh c;have e2:=hv 4 i;omega)
  |(simp only[Bun.enc,Bun.itm,enc,encs,List.map_cons,List.map_nil,List.length_append,List.length_cons,List.length_nil,if_true];have e2:=hv 3 i;omega)
  |(simp only[Bun.enc,Bun.itm,enc,encs,List.map_cons,List.map_nil,List.length_append,List.length_cons,List.length_nil,if_true];have e1:=hh c;omega)
  |(simp only[Bun.enc,Bun.itm,enc,encs,List.map_cons,List.map_nil,List.length_append,List.length_cons,List.length_nil,if_true];omega)
end
section
open Go.RowKit
def RB (w:World)(g off:Nat)(l:List Blk5):Prop:=g<w.heap.size∧w.rangeAt g off (l.flatMap fun x=>(blc x).toList)
abbrev bv (b:Bun)(g off cap:Nat):Array Value:=bunc b.p (.slice (some ⟨g,off,none⟩) b.l.length cap)
section
variable {w w':World} {g off:Nat} {l:List Blk5}
theorem RB.kp (h:RB w g off l)(hb:Below w.heap.size w w'):RB w' g off l:=⟨Nat.lt_of_lt_of_le h.1 hb.size,range_of h.2 (hb.block g h.1)⟩
theorem RB.upd {S:Nat→Prop}(h:RB w g off l)(hu:Upd S w w')(hn:¬S g):RB w' g off l:=⟨Nat.lt_of_lt_of_le h.1 hu.size,range_of h.2 (hu.block g h.1 hn)⟩
theorem RB.at (h:RB w g off l)(i:Nat)(hi:i<l.length):w.rangeAt g (off+i*5) (blc l[i]).toList:=by
 rw[Nat.mul_comm];exact range_blk h.2 i hi
theorem RB.cell (h:RB w g off l)(i:Nat)(hi:i<l.length):w.cell? ⟨g,off+i*5,none⟩=some (.int .i64 l[i].typ)∧w.cell? ⟨g,off+i*5+1,none⟩=some (.int .i64 l[i].num)∧w.cell? ⟨g,off+i*5+2,none⟩=some (.int .u64 l[i].flags)∧
 w.cell? ⟨g,off+i*5+3,none⟩=some (.int .i64 l[i].crc)∧w.cell? ⟨g,off+i*5+4,none⟩=some (.string (st l[i].data)):=by
 rw[Nat.mul_comm];exact blk_cell h.2 i hi
end
theorem i136 {x:Blk5}:(Tryz.prog.info? 136).map (·.size)=some (blc x).toList.length:=size136 (cs:=blc x) rfl
theorem i40 {p:Prim}:(Tryz.prog.info? 40).map (·.size)=some (prc p).toList.length:=size40 (cs:=prc p) rfl
theorem bun_prc {w:World}{b:Nat}{p:Prim}{l:Value}(h:At w b (.cells (bunc p l) 43)):w.rangeAt b 0 (prc p).toList:=fun j v hj=>by
 rw[Nat.zero_add,cell_of_row w b j _ 43 (0,0) h];have hj19:j<19:=by have:=(List.getElem?_eq_some_iff.1 hj).1;simpa[prc]using this
 have e:∀j,j<19→(prc p).toList[j]? =(bunc p l)[j]? :=by
  intro j hj;have:∃x,bunc p l=(prc p).push x:=⟨l,rfl⟩;obtain⟨x,hx⟩:=this;rw[hx,Array.getElem?_push,Array.getElem?_toList,if_neg (by show ¬j=(prc p).size;rw[prc_size];omega)]
 rw[←e j hj19];exact hj
def fnd (l:List Blk5)(t:Nat):Blk5×Bool:=match l.find? (fun x=>x.typ==t)with|some x=>(x,true)|none=>(kZ,false)
theorem fnd_hit (l:List Blk5)(t j:Nat)(hj:j<l.length)(hn:∀i (h:i<l.length),i<j→l[i].typ≠t)(he:l[j].typ=t):fnd l t=(l[j],true):=by
 have:l.find? (fun x=>x.typ==t)=some l[j]:=by
  rw[List.find?_eq_some_iff_getElem];refine⟨by simp[he],j,hj,rfl,fun i hi=>?_⟩;simpa using hn i (by omega) hi
 simp[fnd,this]
theorem fnd_miss (l:List Blk5)(t:Nat)(hn:∀i (h:i<l.length),l[i].typ≠t):fnd l t=(kZ,false):=by
 have:l.find? (fun x=>x.typ==t)=none:=by
  rw[List.find?_eq_none];intro x hx;obtain⟨i,hi,rfl⟩:=List.getElem_of_mem hx;simpa using hn i hi
 simp[fnd,this]
def Cnt (q:IntKind)(k:TypeId)(w:World)(M n:Nat)(f:Nat→Nat):Prop:=∃D:DataW Unit,w.ownsMap Tryz.prog k (plainElem Tryz.prog 3) M n D∧∀j:Nat,(Lit.int q j).wf=true→D.atKey (.int q j) (.lit (.int .i64 0))= .lit (.int .i64 (f j))
theorem zero3 (w:World):(zeroValue 3).run Tryz.prog w= .ok (.int .i64 0) w:=by kernel_rfl
section
variable {q:IntKind} {k t:TypeId} {w w':World} {M n:Nat} {f:Nat→Nat}
theorem Cnt.made (w:World):Cnt q k (w.alloc (.map #[] 0)) w.heap.size 0 fun _=>0:=⟨_,World.ownsMap_made _ _ _ _,fun _ _=>rfl⟩
theorem Cnt.look (h:Cnt q k w M n f)(hk:Tryz.prog.underlying k=some (.int q))(ht:Tryz.prog.underlying t=some (.map k 3))(j:Nat)(hj:(Lit.int q j).wf=true):(Instr.lookup t (.map (some M)) (.int q j) false).run Tryz.prog w= .ok (.int .i64 (f j)) w:=by
 obtain⟨D,ho,hD⟩:=h;obtain⟨c,hr,hat,_⟩:=ho.lookup_int (Maps.int_keyed hk) ht Tryz.underlying3 (zero3 w) (Maps.keyOf_int_mk hk hj);rw[hD j hj]at hat;simp only[DataW.lit.injEq,Lit.int.injEq,true_and]at hat;rw[hr, ←hat]
theorem Cnt.upd {S:Nat→Prop}(h:Cnt q k w M n f)(hu:Upd S w w')(hn:¬S M):Cnt q k w' M n f:=by
 obtain⟨D,⟨es,clock,hb,F,hs,hD⟩,h2⟩:=h;exact⟨D,⟨es,clock,(hu.block M (heap_lt hb) hn).trans hb,F,hs,hD⟩,h2⟩
theorem Cnt.kp (h:Cnt q k w M n f)(hu:Below w.heap.size w w'):Cnt q k w' M n f:=h.upd (S:=fun _=>False) (upd_of_below hu) (fun h=>h)
theorem Cnt.lt (h:Cnt q k w M n f):M<w.heap.size:=by
 obtain⟨D,ho,_⟩:=h;exact ho.lt
theorem Cnt.set (h:Cnt q k w M n f)(hk:Tryz.prog.underlying k=some (.int q))(ht:Tryz.prog.underlying t=some (.map k 3))(hn:n<1000)(j v:Nat)(hj:(Lit.int q j).wf=true)(hv:(Lit.int .i64 v).wf=true):
 ∃w1,(Instr.mapUpdate t (.map (some M)) (.int q j) (.int .i64 v)).run Tryz.prog w= .ok () w1∧Cnt q k w1 M (n+1) (put f j v)∧Upd (·=M) w w1:=by
 obtain⟨D,ho,hD⟩:=h;have hkey:=Maps.keyOf_int_mk (P:=Tryz.prog) hk hj;obtain⟨w1,hr,h1,h2⟩:=ho.update (Maps.int_keyed hk) ht (by unfold maxLen;omega) hkey (plainElem_int (H:=Unit) Tryz.underlying3 hv);refine⟨w1,hr,⟨_,h1,fun i hi=>?_⟩,h2.os,h2.tape,h2.output,h2.size,fun i hi hs=>h2.block i hi (fun e=>hs (Option.some.inj e))⟩;by_cases e:i=j
 · subst e;rw[Maps.atKey_put_same ho.isMap ((Maps.int_keyed hk).key hkey)];simp[put]
 · rw[Maps.atKey_put_other (by simp only[ne_eq,Lit.int.injEq,true_and];omega),hD i hi];simp[put,e]
end
theorem wpList_mapUpdate_run {P:Program}{ops:Array Oper}{rest:List Oper}{o:Oper}{a:Act}{w w1:World}{Q:QT}(hg:o.guard=none)(m x v:Operand)(t:TypeId)(hop:o.op=Op.mapUpdate t m x v)
 (mv xv vv:Value)(hm:a.eval m=mv)(hx:a.eval x=xv)(hv:a.eval v=vv)(hr:(Instr.mapUpdate t mv xv vv).run P w= .ok () w1)(h:wpList P ops Q rest (a.put o.dst undef) w1):wpList P ops Q (o::rest) a w:=by
 refine wpList_plain hg fun K' hK'=>?_;unfold Oper.wp;simp[execOp,hop,hm,hx,hv,hr,Result.andThen];exact hK' _ _ h
theorem wpList_load_g {P:Program}{ops:Array Oper}{rest:List Oper}{op:Oper}{a:Act}{w:World}{Q:QT}(hgd:Region.wanted op (yielded ops a.tmps)=true)(ty:TypeId)(x:Operand)(ho:op.op= .load ty x)
 (b o:Nat)(hx:a.eval x= .pointer (some ⟨b,o,none⟩))(cs:Array Value)(d:TypeDesc)(hc:w.rangeAt b o cs.toList)
 (hu:P.underlying ty=some d)(hd:d.isRow=true)(hi:(P.info? ty).map (·.size)=some cs.size)
 (h:wpList P ops Q rest (a.put op.dst (.agg cs)) w):wpList P ops Q (op::rest) a w:=
 wpList_step fun K hK=>by
  rw[if_pos hgd];exact wp_load_mid ty x ho b o hx cs.toList d hc hu hd (by rw[Array.length_toList];exact hi) (hK _ _ (by rw[Array.toArray_toList];exact h))
end
section
open Go.Shelf
def Tryz.lays105_ren:Go.Shelf.Ren:=⟨fun|105=>242|212=>318|99=>319|165=>320|166=>321|170=>322|169=>323|263=>376|264=>377|206=>355|240=>378|241=>379|276=>423|277=>424|n=>n,fun|9=>9|3=>3|4=>4|20=>20|0=>0|46=>431|109=>432|5=>5|72=>437|76=>440|51=>492|146=>493|53=>32|148=>495|70=>435|37=>113|75=>439|127=>497|164=>534|80=>442|n=>n,fun|n=>n⟩
theorem Tryz.lays105:Go.Proofs.Lays.n105 Tryz.prog Tryz.lays105_ren:={
 mixed:=by kernel_rfl
 f99:=Tryz.func319.trans (congrArg some (by kernel_rfl))
 f105:=Tryz.func242.trans (congrArg some (by kernel_rfl))
 f165:=Tryz.func320.trans (congrArg some (by kernel_rfl))
 f166:=Tryz.func321.trans (congrArg some (by kernel_rfl))
 f169:=Tryz.func323.trans (congrArg some (by kernel_rfl))
 f170:=Tryz.func322.trans (congrArg some (by kernel_rfl))
 f206:=Tryz.func355.trans (congrArg some (by kernel_rfl))
 f212:=Tryz.func318.trans (congrArg some (by kernel_rfl))
 f240:=Tryz.func378.trans (congrArg some (by kernel_rfl))
 f241:=Tryz.func379.trans (congrArg some (by kernel_rfl))
 f263:=Tryz.func376.trans (congrArg some (by kernel_rfl))
 f264:=Tryz.func377.trans (congrArg some (by kernel_rfl))
 f276:=Tryz.func423.trans (congrArg some (by kernel_rfl))
 f277:=Tryz.func424.trans (congrArg some (by kernel_rfl))
 t0:=Tryz.underlying0
 a0:=Tryz.isAgg0
 z0:=Tryz.sizeOf0
 v0:=Tryz.zeroValue0
 t3:=Tryz.underlying3
 a3:=Tryz.isAgg3
 z3:=Tryz.sizeOf3
 v3:=Tryz.zeroValue3
 t4:=Tryz.underlying4
 a4:=Tryz.isAgg4
 z4:=Tryz.sizeOf4
 v4:=Tryz.zeroValue4
 t5:=Tryz.underlying5
 a5:=Tryz.isAgg5
 z5:=Tryz.sizeOf5
 v5:=Tryz.zeroValue5
 t9:=Tryz.underlying9
 a9:=Tryz.isAgg9
 z9:=Tryz.sizeOf9
 v9:=Tryz.zeroValue9
 t20:=Tryz.underlying20
 a20:=Tryz.isAgg20
 z20:=Tryz.sizeOf20
 v20:=Tryz.zeroValue20
 t37:=Tryz.underlying113
 a37:=Tryz.isAgg113
 z37:=Tryz.sizeOf113
 v37:=Tryz.zeroValue113
 t46:=Tryz.underlying431
 a46:=Tryz.isAgg431
 z46:=Tryz.sizeOf431
 v46:=Tryz.zeroValue431
 t51:=Tryz.underlying492
 a51:=Tryz.isAgg492
 z51:=Tryz.sizeOf492
 v51:=Tryz.zeroValue492
 t53:=Tryz.underlying32
 a53:=Tryz.isAgg32
 z53:=Tryz.sizeOf32
 v53:=Tryz.zeroValue32
 t70:=Tryz.underlying435
 a70:=Tryz.isAgg435
 z70:=Tryz.sizeOf435
 v70:=Tryz.zeroValue435
 t72:=Tryz.underlying437
 a72:=Tryz.isAgg437
 z72:=Tryz.sizeOf437
 v72:=Tryz.zeroValue437
 t75:=Tryz.underlying439
 a75:=Tryz.isAgg439
 z75:=Tryz.sizeOf439
 v75:=Tryz.zeroValue439
 t76:=Tryz.underlying440
 a76:=Tryz.isAgg440
 z76:=Tryz.sizeOf440
 v76:=Tryz.zeroValue440
 t109:=Tryz.underlying432
 a109:=Tryz.isAgg432
 z109:=Tryz.sizeOf432
 v109:=Tryz.zeroValue432
 t127:=Tryz.underlying497
 a127:=Tryz.isAgg497
 z127:=Tryz.sizeOf497
 v127:=Tryz.zeroValue497
 t146:=Tryz.underlying493
 a146:=Tryz.isAgg493
 z146:=Tryz.sizeOf493
 v146:=Tryz.zeroValue493
 t148:=Tryz.underlying495
 a148:=Tryz.isAgg495
 z148:=Tryz.sizeOf495
 v148:=Tryz.zeroValue495
 t164:=Tryz.underlying534
 a164:=Tryz.isAgg534
 z164:=Tryz.sizeOf534
 v164:=Tryz.zeroValue534 }
theorem Tryz.Builder_Extra_105:Builder.Extra Tryz.prog Tryz.lays105_ren:={
 sizeBuilder:=by kernel_rfl
 liesBuilder:=by kernel_rfl
 t5:=Tryz.underlying5
 a5:=Tryz.isAgg5
 z5:=Tryz.sizeOf5
 v5:=Tryz.zeroValue5
 infoByte:=by kernel_rfl
 cellsByte:=by kernel_rfl
 sizeByte:=by kernel_rfl
 neB5:=by decide }
open Go.RowKit Go.Lib in
theorem Tryz.strings_Repeat_zero (s:ByteArray)(w:World):
 Calls Tryz.prog 242 #[.string s,.int .i64 0] w fun e w'=>e= .returned (.string ⟨#[]⟩)∧w'=w:=Any.strings_Repeat_zero Tryz.lays105 s w
open Go.RowKit Go.Lib in
theorem Tryz.strings_Repeat (s:ByteArray)(c:Nat)(w:World)(hc:c≤9223372036854775807)(hlen:s.size*c≤140737488355328):
 Rv 242 #[.string s,.int .i64 c] w (.string ⟨(Lib.repeatL s.data.toList c).toArray⟩):=Any.strings_Repeat Tryz.lays105 Tryz.Builder_Extra_105 s c w hc hlen
def Tryz.laysCl241_ren:Go.Shelf.Ren:=⟨fun|41=>241|n=>n,fun|22=>91|23=>93|4=>4|n=>n,fun|n=>n⟩
theorem Tryz.laysCl241:Go.Proofs.SlLaysE0.n41 Tryz.prog Tryz.laysCl241_ren:={
 mixed:=by kernel_rfl
 f41:=⟨Tryz.f241.name,by decide,Tryz.func241.trans (congrArg some (by kernel_rfl))⟩
 t4:=Tryz.underlying4
 a4:=Tryz.isAgg4
 z4:=Tryz.sizeOf4
 v4:=Tryz.zeroValue4
 t22:=Tryz.underlying91
 a22:=Tryz.isAgg91
 z22:=Tryz.sizeOf91
 v22:=Tryz.zeroValue91 }
def Tryz.laysCl90_ren:Go.Shelf.Ren:=⟨fun|41=>90|n=>n,fun|22=>41|23=>136|4=>4|n=>n,fun|n=>n⟩
theorem Tryz.laysCl90:Go.Proofs.SlLaysE0.n41 Tryz.prog Tryz.laysCl90_ren:={
 mixed:=by kernel_rfl
 f41:=⟨Tryz.f90.name,by decide,Tryz.func90.trans (congrArg some (by kernel_rfl))⟩
 t4:=Tryz.underlying4
 a4:=Tryz.isAgg4
 z4:=Tryz.sizeOf4
 v4:=Tryz.zeroValue4
 t22:=Tryz.underlying41
 a22:=Tryz.isAgg41
 z22:=Tryz.sizeOf41
 v22:=Tryz.zeroValue41 }
def Tryz.laysCl64_ren:Go.Shelf.Ren:=⟨fun|41=>64|n=>n,fun|22=>68|23=>103|4=>4|n=>n,fun|n=>n⟩
theorem Tryz.laysCl64:Go.Proofs.SlLaysE0.n41 Tryz.prog Tryz.laysCl64_ren:={
 mixed:=by kernel_rfl
 f41:=⟨Tryz.f64.name,by decide,Tryz.func64.trans (congrArg some (by kernel_rfl))⟩
 t4:=Tryz.underlying4
 a4:=Tryz.isAgg4
 z4:=Tryz.sizeOf4
 v4:=Tryz.zeroValue4
 t22:=Tryz.underlying68
 a22:=Tryz.isAgg68
 z22:=Tryz.sizeOf68
 v22:=Tryz.zeroValue68 }
def Tryz.laysCl105_ren:Go.Shelf.Ren:=⟨fun|41=>105|n=>n,fun|22=>70|23=>186|4=>4|n=>n,fun|n=>n⟩
theorem Tryz.laysCl105:Go.Proofs.SlLaysE0.n41 Tryz.prog Tryz.laysCl105_ren:={
 mixed:=by kernel_rfl
 f41:=⟨Tryz.f105.name,by decide,Tryz.func105.trans (congrArg some (by kernel_rfl))⟩
 t4:=Tryz.underlying4
 a4:=Tryz.isAgg4
 z4:=Tryz.sizeOf4
 v4:=Tryz.zeroValue4
 t22:=Tryz.underlying70
 a22:=Tryz.isAgg70
 z22:=Tryz.sizeOf70
 v22:=Tryz.zeroValue70 }
def Tryz.laysIf158_ren:Go.Shelf.Ren:=⟨fun|6=>158|n=>n,fun|22=>70|23=>186|25=>191|3=>3|0=>0|4=>4|n=>n,fun|n=>n⟩
theorem Tryz.laysIf158:Go.Proofs.SlLaysH0.n6 Tryz.prog Tryz.laysIf158_ren:={
 mixed:=by kernel_rfl
 f6:=⟨Tryz.f158.name,by decide,Tryz.func158.trans (congrArg some (by kernel_rfl))⟩
 t0:=Tryz.underlying0
 a0:=Tryz.isAgg0
 z0:=Tryz.sizeOf0
 v0:=Tryz.zeroValue0
 t3:=Tryz.underlying3
 a3:=Tryz.isAgg3
 z3:=Tryz.sizeOf3
 v3:=Tryz.zeroValue3
 t4:=Tryz.underlying4
 a4:=Tryz.isAgg4
 z4:=Tryz.sizeOf4
 v4:=Tryz.zeroValue4
 t22:=Tryz.underlying70
 a22:=Tryz.isAgg70
 z22:=Tryz.sizeOf70
 v22:=Tryz.zeroValue70
 t25:=Tryz.underlying191
 a25:=Tryz.isAgg191
 z25:=Tryz.sizeOf191
 v25:=Tryz.zeroValue191 }
def Tryz.laysIf264_ren:Go.Shelf.Ren:=⟨fun|6=>264|n=>n,fun|22=>41|23=>136|25=>232|3=>3|0=>0|4=>4|n=>n,fun|n=>n⟩
theorem Tryz.laysIf264:Go.Proofs.SlLaysH0.n6 Tryz.prog Tryz.laysIf264_ren:={
 mixed:=by kernel_rfl
 f6:=⟨Tryz.f264.name,by decide,Tryz.func264.trans (congrArg some (by kernel_rfl))⟩
 t0:=Tryz.underlying0
 a0:=Tryz.isAgg0
 z0:=Tryz.sizeOf0
 v0:=Tryz.zeroValue0
 t3:=Tryz.underlying3
 a3:=Tryz.isAgg3
 z3:=Tryz.sizeOf3
 v3:=Tryz.zeroValue3
 t4:=Tryz.underlying4
 a4:=Tryz.isAgg4
 z4:=Tryz.sizeOf4
 v4:=Tryz.zeroValue4
 t22:=Tryz.underlying41
 a22:=Tryz.isAgg41
 z22:=Tryz.sizeOf41
 v22:=Tryz.zeroValue41
 t25:=Tryz.underlying232
 a25:=Tryz.isAgg232
 z25:=Tryz.sizeOf232
 v25:=Tryz.zeroValue232 }
end
section
open Go.RowKit
variable {x0 x1 x2 x3 x4 x5 x6 x7 x8 x9 x10 x11 x12 x13 x14 x15 x16 x17 x18 x19 x20 x21 x22 x23 x24 x25 x26 x27 x28 x29 x30 x31 x32 x33 x34 x35 x36 x37 x38 x39 x40 x41 x42 x43 x44 x45 x46 x47 x48 x49:Value} {r:List Value}
theorem built284 (q:List UInt8):Tryz.prog.built 284 [(0,.string (st q))]=some (pc q 0):=by kernel_rfl
theorem num_lit0 (w:World):Rv 160 #[.int .u64 0] w (.agg (ic 0 0 [] nS false)):=num_any 0 w
theorem num_lit1 (w:World):Rv 160 #[.int .u64 1] w (.agg (ic 0 1 [] nS false)):=num_any 1 w
theorem num_lit2 (w:World):Rv 160 #[.int .u64 2] w (.agg (ic 0 2 [] nS false)):=num_any 2 w
theorem num_lit7 (w:World):Rv 160 #[.int .u64 7] w (.agg (ic 0 7 [] nS false)):=num_any 7 w
theorem parse_any (x:Itm)(w:World)(hd:deep x≤8)(hw:wf x)(hl:(enc x).length≤100000):
 Calls Tryz.prog 121 #[.string (st (enc x))] w fun e w'=>∃cs:Array Value,e= .returned (.tuple #[.agg cs,.int .i64 (-1),.int .i64 0])∧cs.size=5∧cs.all (·.oneCell')=true∧Below w.heap.size w w'∧Keeps w.heap.size w'.heap.size w' fun w2=>IsI w2 cs x:=by
 obtain⟨q,hq⟩:∃q,q=enc x:=⟨_,rfl⟩;rw[←hq]at hl ⊢;have hz93:=zero93;have hb:=built284 q;have hsz:=st_size q;have HQ:=hid hq;clear hq;have HW:=hid (And.intro hd (And.intro hw hl));clear hd hw hl;obtain⟨w1,HE,U0,R_0,P_0⟩:=mH2 w (ic 0 0 [] nS false) 93 (#[.string (st q),.int .i64 0,.int .i64 0]) 284;go_enter Tryz.func121,Tryz.ntmps121;go_upto_region 2 with(fail);rw[←HE.out];clear HE;clear hb;go_wp2_with fail;refine(pitem_any q (w.heap.size+1) HW.out.2.2 8 x HW.out.1 HW.out.2.1 (Nat.le_refl _) [] 0 _ P_0.out (Nat.zero_le _) (by rw[HQ.out];simp)).mono ?_;rintro e w_2 ⟨cs,rfl,h1,h2,hat,hu,hk⟩;have R_5:=hid (R_0.out.upd hu (by show ¬_=_;omega));rw[Nat.zero_add]at hat;have P_5:=hid hat;have U_5:=hid (U0.out.trans (hu.below U0.out.size (fun k e=>by have e:k=w.heap.size+1:=e;omega)));have HC:=hid (And.intro h1 h2);have K_5:=hid (And.intro hk P_0.out.lt);clear hat hu h1 h2 hk R_0 P_0 U0;have hql:(q.length:Int)≤100000:=by have:=HW.out.2.2;omega
 have HE:=hid (congrArg List.length HQ.out);rw[←HE.out]at P_5;go_upto_region 3 with(refine wpList_store_row rfl 93 (.tmp 6) (.tmp 11) rfl (w_2).heap.size (cs) rfl rfl 93 _ (heap_new _ _) (size93 HC.out.1) ((by rw[HC.out.1];rfl)) HC.out.2 ?_);have hv:=varnew w_2 (ic 0 0 [] nS false) (cs) 93;generalize World.setRow (World.alloc w_2 (.cells (ic 0 0 [] nS false) 93)) (w_2).heap.size (cs)=w_7 at*;obtain⟨hb,hk⟩:=hv;have HB3:=hid hb;have R_8:=hid (R_5.out.kp hb);have P_9:=hid (P_5.out.kp hb);have U_10:=tR U_5 hb;clear R_5 P_5 U_5;have T_11:=hid hk;clear hb hk;obtain⟨p0,p1,p2⟩:=pthree P_9.out;go_wp2_with (first|refine wpList_store_row rfl 93 (.tmp 2) (.tmp 46) rfl (w.heap.size) (cs) rfl rfl 93 _ R_8.out (size93 HC.out.1) ((by rw[HC.out.1];rfl)) HC.out.2 ?_|refine lR 93 6 T_11.out Tryz.underlying93 (size93 HC.out.1) ?_);have hu9:=upd_setRow w_7 (w.heap.size) (cs);have hb9:=hu9.below (U_10.out).size (fun k e=>by rw[e];first|exact Nat.le_refl _|omega);refine bodyPost_ret (results_row_tmp2 (g:=w.heap.size) rfl _ _ 93 (cs) (0,0) _ rfl ((R_8.out).row _) Tryz.underlying93 rfl (size93 HC.out.1)) rfl ⟨cs,rfl,HC.out.1,by have:=HC.out.2;simpa using this,(U_10.out).trans (hb9.mono (Nat.le_refl _)),?_⟩;exact((K_5.out.1.upd (upd_of_below (S:=fun _=>False) HB3.out) (Nat.le_refl _) (fun _ _ _ h=>h)).upd hu9 (HB3.out.size) (fun k h1 h2 e=>by have:=K_5.out.2;have e:k=w.heap.size:=e;omega)).wide (by have:=K_5.out.2;omega) (Nat.le_trans HB3.out.size hu9.size)
theorem built34n:Tryz.prog.built 34 [(0,.int .i64 1),(1,.string ⟨#[110,111,110,101]⟩)]=some (ec eNone):=by kernel_rfl
theorem none_any (w:World):
 Rv 97 #[] w (.agg (ec eNone)):=by
 have hb:=built34n;have hz34:=zero34;obtain⟨w1,HE,U0,R'⟩:=mH1 w (ec eZ) 34;go_enter Tryz.func97,Tryz.ntmps97;go_upto_region 1 with(fail);rw[←HE.out];clear HE;go_wp2_with (refine sR 34 0 1 (w.heap.size) (ec eNone) R'.out (size34 rfl) (ec_one _) ?_);have hu9:=upd_setRow w1 (w.heap.size) (ec eNone);have hb9:=hu9.below (U0.out).size (fun k e=>by rw[e];first|exact Nat.le_refl _|omega);exact bodyPost_ret (rQ ((R'.out).row _)) rfl ⟨rfl,U0.out.trans (hb9.mono (Nat.le_refl _))⟩
theorem named_none (w:World):
 Rv 157 #[.string ⟨#[110,111,110,101]⟩] w (.bool true):=by
 go_enter Tryz.func157,Tryz.ntmps157;go_wp2_with fail;go_ret;exact⟨rfl,Below.refl _ _⟩
theorem eright_ipn (n m:Nat)(w:World)(hn:n≤4294967295)(hm:m≤4294967295):
 Rv 102 #[.agg (ec ⟨2,[],n,m⟩)] w (.bool true):=by
 have hn0:(n:Int)≤4294967295:=by omega
 have hm0:(m:Int)≤4294967295:=by omega
 clear hn hm;obtain⟨w1,HE,U0,E'⟩:=mH1 w (ec ⟨2,[],n,m⟩) 34;go_enter Tryz.func102,Tryz.ntmps102;go_upto_region 1 with(fail);rw[←HE.out];clear HE;obtain⟨e0,e1,e2,e3⟩:=ipn_cells E'.out;go_wp2_with fail;go_ret;exact⟨rfl,U0.out⟩
theorem eright_none (w:World):
 Rv 102 #[.agg (ec eNone)] w (.bool true):=by
 obtain⟨w1,HE,U0,E'⟩:=mH1 w (ec eNone) 34;go_enter Tryz.func102,Tryz.ntmps102;go_upto_region 1 with(fail);rw[←HE.out];clear HE;obtain⟨e0,e1,e2,e3⟩:=none_cells E'.out;go_wp2_with fail;refine(named_none w1).mono ?_;rintro e w_1 ⟨rfl,hb⟩;replace E':=hid (E'.out.kp hb);have U':=tR U0 hb;clear U0;clear hb;go_wp2_with fail;go_ret;exact⟨rfl,U'.out⟩
theorem eright_any (e:Eid)(w:World)(h:e.ok):Rv 102 #[.agg (ec e)] w (.bool true):=by
 rcases h with h|rfl
 · obtain⟨n,m,rfl,hn,hm⟩:=ipn_form h;exact eright_ipn n m w hn hm
 · exact eright_none w
theorem eitem_r (E R n m:Nat)(w:World)(Q:QT)(hne:E≠R)(e2:w.cell? ⟨E,2,none⟩=some (.int .u64 n))(e3:w.cell? ⟨E,3,none⟩=some (.int .u64 m))(hR:At w R (.cells (ic 0 0 [] nS false) 93))
 (hQ:∀(y13 y14 y15 y16 y17 y18 y19 y20 y21 y22 y23:Value) (g h:Nat) (w6:World),Below w.heap.size w w6→w.heap.size≤g→w.heap.size≤h→At w6 g (.cells #[.int .i64 0,.int .u64 n,.string (st []),nS,.bool false,.int .i64 0,.int .u64 m,.string (st []),nS,.bool false] 93)→At w6 h (.cells #[.int .i64 0,.int .u64 2,.string (st []),nS,.bool false,.int .i64 4,.int .u64 0,.string (st []),.slice (some ⟨g,0,none⟩) 2 2,.bool false] 93)→Q .normal ⟨(x0::.pointer (some ⟨E,0,none⟩)::.pointer (some ⟨R,0,none⟩)::.int .i64 0::x4::x5::x6::x7::x8::x9::x10::x11::x12::y13::y14::y15::y16::y17::y18::y19::y20::y21::y22::y23::r).toArray,[]⟩ (w6.setRow R (ic 4 0 [] (.slice (some ⟨h,0,none⟩) 2 2) false))):
 Code.wp Tryz.prog (rg Tryz.f202 4) Q ⟨(x0::.pointer (some ⟨E,0,none⟩)::.pointer (some ⟨R,0,none⟩)::x3::x4::x5::x6::x7::x8::x9::x10::x11::x12::x13::x14::x15::x16::x17::x18::x19::x20::x21::x22::x23::r).toArray,[]⟩ w:=by
 have HQ:=hid hQ;clear hQ;have HU0:=hid (below_drew (Below.refl w.heap.size w));have HS:=hid (show ∀w',Below w.heap.size w w'→w'.cell? ⟨E,2,none⟩=some (.int .u64 n)∧w'.cell? ⟨E,3,none⟩=some (.int .u64 m)from fun w' hu=>⟨(upd_of_below (S:=fun _=>False) hu).cell e2 (fun h=>h),(upd_of_below (S:=fun _=>False) hu).cell e3 (fun h=>h)⟩);have HS2:=hid (show ∀(w':World) cs,Below w.heap.size w w'→(w'.setRow R cs).cell? ⟨E,2,none⟩=some (.int .u64 n)∧(w'.setRow R cs).cell? ⟨E,3,none⟩=some (.int .u64 m)from fun w' cs hu=>⟨(upd_setRow w' R cs).cell (HS.out w' hu).1 hne,(upd_setRow w' R cs).cell (HS.out w' hu).2 hne⟩);have hRh:=hid hR;clear e2 e3 hR hne;conv=>arg 2;whnf
 refine wp_region_T (S:=fun w'=>w'.cell? ⟨E,2,none⟩=some (.int .u64 n)∧w'.cell? ⟨E,3,none⟩=some (.int .u64 m)) (fun _=>false) (by kernel_rfl) (HS.out _ HU0.out) (fun hHeld=>?_);refine t2 1 ?_;refine t2 2 ?_;refine t2 4 ?_;refine t2 5 ?_;refine rd1 0 rfl fun K hK=>?_;go_simp;(with_reducible refine(num_lit2 _).mono ?_);rintro e w1 ⟨rfl,hb⟩;have HU1:=tR HU0 hb;clear hb;refine kK hK (HS.out _ HU1.out) fun hHeld=>?_;try simp only[Act.put,fr]
 refine rd1 3 rfl fun K hK=>?_;go_simp;(with_reducible refine(num_any n _).mono ?_);rintro e w2 ⟨rfl,hb⟩;have HU2:=tR HU1 hb;clear hb;refine kK hK (HS.out _ HU2.out) fun hHeld=>?_;try simp only[Act.put,fr]
 refine rd1 6 rfl fun K hK=>?_;go_simp;(with_reducible refine(num_any m _).mono ?_);rintro e w3 ⟨rfl,hb⟩;have HU3:=tR HU2 hb;clear hb;refine kK hK (HS.out _ HU3.out) fun hHeld=>?_;try simp only[Act.put,fr]
 refine rd1 7 rfl fun K hK=>?_;simp only[ic];go_simp;have hb:Below (w3).heap.size (w3) ((w3).alloc (.cells #[.int .i64 0,.int .u64 n,.string (st []),nS,.bool false,.int .i64 0,.int .u64 m,.string (st []),nS,.bool false] 93)):=(Below.refl (w3).heap.size (w3)).alloc (Nat.le_refl _) (.cells #[.int .i64 0,.int .u64 n,.string (st []),nS,.bool false,.int .i64 0,.int .u64 m,.string (st []),nS,.bool false] 93);have HU4:=tR HU3 hb;have G4:=hid (show At ((w3).alloc (.cells #[.int .i64 0,.int .u64 n,.string (st []),nS,.bool false,.int .i64 0,.int .u64 m,.string (st []),nS,.bool false] 93)) (w3).heap.size (.cells #[.int .i64 0,.int .u64 n,.string (st []),nS,.bool false,.int .i64 0,.int .u64 m,.string (st []),nS,.bool false] 93)from heap_new (w3) (.cells #[.int .i64 0,.int .u64 n,.string (st []),nS,.bool false,.int .i64 0,.int .u64 m,.string (st []),nS,.bool false] 93));clear hb;refine kK hK (HS.out _ HU4.out) fun hHeld=>?_;try simp only[Act.put,fr]
 refine rd1 8 rfl fun K hK=>?_;go_simp;(with_reducible refine(list_any (some ⟨w3.heap.size,0,none⟩) 2 2 _).mono ?_);rintro e w5 ⟨rfl,hb⟩;have HU5:=tR HU4 hb;have G5:=hid (G4.out.keep hb);clear hb;refine kK hK (HS.out _ HU5.out) fun hHeld=>?_;try simp only[Act.put,fr]
 refine rd1 9 rfl fun K hK=>?_;simp only[ic];go_simp;have hb:Below (w5).heap.size (w5) ((w5).alloc (.cells #[.int .i64 0,.int .u64 2,.string (st []),nS,.bool false,.int .i64 4,.int .u64 0,.string (st []),.slice (some ⟨w3.heap.size,0,none⟩) 2 2,.bool false] 93)):=(Below.refl (w5).heap.size (w5)).alloc (Nat.le_refl _) (.cells #[.int .i64 0,.int .u64 2,.string (st []),nS,.bool false,.int .i64 4,.int .u64 0,.string (st []),.slice (some ⟨w3.heap.size,0,none⟩) 2 2,.bool false] 93);have HU6:=tR HU5 hb;have G6:=hid (G5.out.keep hb);have H6:=hid (show At ((w5).alloc (.cells #[.int .i64 0,.int .u64 2,.string (st []),nS,.bool false,.int .i64 4,.int .u64 0,.string (st []),.slice (some ⟨w3.heap.size,0,none⟩) 2 2,.bool false] 93)) (w5).heap.size (.cells #[.int .i64 0,.int .u64 2,.string (st []),nS,.bool false,.int .i64 4,.int .u64 0,.string (st []),.slice (some ⟨w3.heap.size,0,none⟩) 2 2,.bool false] 93)from heap_new (w5) (.cells #[.int .i64 0,.int .u64 2,.string (st []),nS,.bool false,.int .i64 4,.int .u64 0,.string (st []),.slice (some ⟨w3.heap.size,0,none⟩) 2 2,.bool false] 93));clear hb;refine kK hK (HS.out _ HU6.out) fun hHeld=>?_;try simp only[Act.put,fr]
 refine rd1 10 rfl fun K hK=>?_;go_simp;(with_reducible refine(list_any (some ⟨w5.heap.size,0,none⟩) 2 2 _).mono ?_);rintro e w7 ⟨rfl,hb⟩;have HU7:=tR HU6 hb;have G7:=hid (G6.out.keep hb);have H7:=hid (H6.out.keep hb);clear hb;refine kK hK (HS.out _ HU7.out) fun hHeld=>?_;try simp only[Act.put,fr]
 refine rd1 11 rfl fun K hK=>?_;refine wp_store_row 93 (.tmp 2) (.tmp 23) rfl R (ic 4 0 [] (.slice (some ⟨w5.heap.size,0,none⟩) 2 2) false) rfl rfl 93 _ (At.kp hRh.out HU7.out) (size93 rfl) rfl (ic_one ..) ?_;refine hK.out _ _ (fun _=>HS2.out _ _ HU7.out) (fun hHeld=>?_);clear hK K;try simp only[Act.put,fr]
 refine t2 12 ?_;exact dN (HQ.out _ _ _ _ _ _ _ _ _ _ _ _ _ _ HU7.out HU3.out.size HU5.out.size G7.out H7.out)
theorem eitem_ipn (n m:Nat)(w:World)(hn:n≤4294967295)(hm:m≤4294967295):
 Calls Tryz.prog 202 #[.agg (ec ⟨2,[],n,m⟩)] w fun e w'=>∃h:Nat,e= .returned (.tuple #[.agg (ic 4 0 [] (.slice (some ⟨h,0,none⟩) 2 2) false),.int .i64 0])∧Below w.heap.size w w'∧Keeps w.heap.size w'.heap.size w' fun w2=>IsI w2 (ic 4 0 [] (.slice (some ⟨h,0,none⟩) 2 2) false) (eitm ⟨2,[],n,m⟩):=by
 have HB:=hid (And.intro hn hm);clear hn hm;have hz93:=zero93;obtain⟨w1,HE,U0,E',R'⟩:=mH2 w (ec ⟨2,[],n,m⟩) 34 (ic 0 0 [] nS false) 93;go_enter Tryz.func202,Tryz.ntmps202;go_upto_region 1 with(fail);rw[←HE.out];clear HE;go_wp2_with (refine lQ 34 1 E'.out ?_);refine(eright_ipn n m _ HB.out.1 HB.out.2).mono ?_;rintro e w_1 ⟨rfl,hb⟩;replace E':=hid (E'.out.kp hb);replace R':=hid (R'.out.kp hb);have U':=tR U0 hb;clear U0;clear hb;obtain⟨e0,e1,e2,e3⟩:=ipn_cells E'.out;go_upto_region 4 with(fail);refine ent (C:=rg Tryz.f202 4) (by kernel_rfl) ?_;refine eitem_r w.heap.size (w.heap.size+1) n m _ _ (by omega) e2 e3 R'.out ?_;intro y13 y14 y15 y16 y17 y18 y19 y20 y21 y22 y23 g h w6 hb h1 h2 hg hh;have R6:=hid (R'.out.kp hb);have U6:=hid ((U'.out).trans (hb.mono (U'.out).size));have G6:=hid (And.intro hg hh);have RL:=hid (R'.out.lt);have L6:=hid (show w.heap.size+2≤g∧w.heap.size+2≤h from by have:=R'.out.lt;omega);clear hb h1 h2 hg hh e0 e1 e2 e3;go_wp2_with fail;have hu9:=upd_setRow w6 (w.heap.size+1) (ic 4 0 [] (.slice (some ⟨h,0,none⟩) 2 2) false);have hb9:=hu9.below U6.out.size (fun k e=>by rw[e];omega);have L7:=L6.out;refine bodyPost_ret (rU (R6.out.row _)) rfl ⟨_,rfl,U6.out.trans hb9,fun w2 hw=>?_⟩;have a1:=At.upd G6.out.1 hu9 (show ¬g=w.heap.size+1 by omega);have a2:=At.upd G6.out.2 hu9 (show ¬h=w.heap.size+1 by omega);exact eitm_ipn (a1.within (by omega) a1.lt hw) (a2.within (by omega) a2.lt hw)
theorem eitem_none (w:World):
 Calls Tryz.prog 202 #[.agg (ec eNone)] w fun e w'=>∃h:Nat,e= .returned (.tuple #[.agg (ic 4 0 [] (.slice (some ⟨h,0,none⟩) 2 2) false),.int .i64 0])∧Below w.heap.size w w'∧Keeps w.heap.size w'.heap.size w' fun w2=>IsI w2 (ic 4 0 [] (.slice (some ⟨h,0,none⟩) 2 2) false) (eitm eNone):=by
 have hz93:=zero93;obtain⟨w1,HE,U0,E',R'⟩:=mH2 w (ec eNone) 34 (ic 0 0 [] nS false) 93;go_enter Tryz.func202,Tryz.ntmps202;go_upto_region 1 with(fail);rw[←HE.out];clear HE;go_wp2_with (refine lQ 34 1 E'.out ?_);refine(eright_none w1).mono ?_;rintro e w_1 ⟨rfl,hb⟩;replace E':=hid (E'.out.kp hb);replace R':=hid (R'.out.kp hb);have U':=tR U0 hb;clear U0;clear hb;obtain⟨e0,e1,e2,e3⟩:=none_cells E'.out;go_upto_region 6 with(fail);clear e0 e1 e2 e3;go_wp2_with fail;refine(num_lit1 w_1).mono ?_;rintro e w_5 ⟨rfl,hb⟩;replace E':=hid (E'.out.kp hb);replace R':=hid (R'.out.kp hb);replace U':=tR U' hb;clear hb;go_wp2_with fail;refine(num_lit0 w_5).mono ?_;rintro e w_9 ⟨rfl,hb⟩;replace E':=hid (E'.out.kp hb);replace R':=hid (R'.out.kp hb);replace U':=tR U' hb;clear hb;simp only[ic];go_wp2_with fail;refine(list_any _ 2 2 _).mono ?_;rintro e w7 ⟨rfl,hb⟩;have hh:At w7 w_9.heap.size (.cells #[.int .i64 0,.int .u64 1,.string (st []),nS,.bool false,.int .i64 0,.int .u64 0,.string (st []),nS,.bool false] 93):=At.kp (heap_new w_9 _) hb;have hb2:=((Below.refl w_9.heap.size w_9).alloc (Nat.le_refl _) _).trans (hb.mono (by rw[World.size_alloc];omega));have R6:=hid (R'.out.kp hb2);have U6:=hid ((U'.out).trans (hb2.mono (U'.out).size));have G6:=hid hh;have L6:=hid (R'.out.lt);clear hb hb2 hh;go_wp2_with (refine sR 93 2 31 (w.heap.size+1) (ic 4 0 [] (.slice (some ⟨w_9.heap.size,0,none⟩) 2 2) false) R6.out (size93 rfl) (ic_one ..) ?_);have hu9:=upd_setRow w7 (w.heap.size+1) (ic 4 0 [] (.slice (some ⟨w_9.heap.size,0,none⟩) 2 2) false);have hb9:=hu9.below U6.out.size (fun k e=>by rw[e];omega);have L7:=L6.out;refine bodyPost_ret (rU (R6.out.row _)) rfl ⟨_,rfl,U6.out.trans hb9,fun w2 hw=>?_⟩;have a2:=At.upd G6.out hu9 (show ¬w_9.heap.size=w.heap.size+1 by omega);exact eitm_none (a2.within (by omega) a2.lt hw)
theorem eitm_inv {w:World}{cs:Array Value}{n m:Nat}(h:IsI w cs (eitm ⟨2,[],n,m⟩)):∃b o c b2 o2 c2,cs=ic 4 0 [] (.slice (some ⟨b,o,none⟩) 2 c) false∧2≤c∧2≤c2∧
 w.rangeAt b o (ic 0 2 [] nS false).toList∧w.rangeAt b (o+5) (ic 4 0 [] (.slice (some ⟨b2,o2,none⟩) 2 c2) false).toList∧w.rangeAt b2 o2 (ic 0 n [] nS false).toList∧w.rangeAt b2 (o2+5) (ic 0 m [] nS false).toList:=by
 rw[show eitm ⟨2,[],n,m⟩= .arr false [.num 2,.arr false [.num n,.num m]]from rfl]at h;rw[IsI]at h;obtain⟨a,c,h1,h2,h3⟩:=h;obtain⟨b,o,rfl,h4⟩:=h3.resolve_left (by simp);simp only[IsL]at h4;obtain⟨⟨c1,_,r1,i1⟩,⟨c2,_,r2,i2⟩,_⟩:=h4;simp only[IsI]at i1 i2;obtain⟨a2,k2,j1,j2,j3⟩:=i2;obtain⟨b2,o2,rfl,h5⟩:=j3.resolve_left (by simp);simp only[IsL]at h5;obtain⟨⟨d1,_,s1,t1⟩,⟨d2,_,s2,t2⟩,_⟩:=h5;simp only[IsI]at t1 t2;subst i1 j1 t1 t2;exact⟨b,o,c,b2,o2,k2,h1,h2,j2,r1,r2,s1,s2⟩
theorem eitm_invN {w:World}{cs:Array Value}(h:IsI w cs (eitm eNone)):∃b o c,cs=ic 4 0 [] (.slice (some ⟨b,o,none⟩) 2 c) false∧2≤c∧
 w.rangeAt b o (ic 0 1 [] nS false).toList∧w.rangeAt b (o+5) (ic 0 0 [] nS false).toList:=by
 rw[show eitm eNone= .arr false [.num 1,.num 0]from rfl]at h;rw[IsI]at h;obtain⟨a,c,h1,h2,h3⟩:=h;obtain⟨b,o,rfl,h4⟩:=h3.resolve_left (by simp);simp only[IsL]at h4;obtain⟨⟨c1,_,r1,i1⟩,⟨c2,_,r2,i2⟩,_⟩:=h4;simp only[IsI]at i1 i2;subst i1 i2;exact⟨b,o,c,h1,h2,r1,r2⟩
theorem built34i (n m:Nat):Tryz.prog.built 34 [(0,.int .i64 2),(2,.int .u64 n),(3,.int .u64 m)]=some (ec ⟨2,[],n,m⟩):=by kernel_rfl
theorem eread_r (Y R b2 o2 n m c2:Nat)(w:World)(Q:QT)(hc20:(2:Int)≤(c2:Int))(hYR:Y≠R)(hbR:b2≠R)(y3:w.cell? ⟨Y,3,none⟩=some (.slice (some ⟨b2,o2,none⟩) 2 c2))(q3:w.cell? ⟨b2,o2+1,none⟩=some (.int .u64 n))(q4:w.cell? ⟨b2,o2+5+1,none⟩=some (.int .u64 m))(hR:At w R (.cells (ec eZ) 34))
 (hQ:∀(y39 y40 y41 y42 y43 y44 y45 y46 y47 y48 y49:Value),Q .normal ⟨(x0::x1::.pointer (some ⟨R,0,none⟩)::.pointer (some ⟨Y,0,none⟩)::x4::x5::x6::x7::x8::x9::x10::x11::x12::x13::x14::x15::x16::x17::x18::x19::x20::x21::x22::x23::x24::x25::x26::x27::x28::x29::x30::x31::x32::x33::x34::x35::x36::x37::x38::y39::y40::y41::y42::y43::y44::y45::y46::y47::y48::y49::r).toArray,[]⟩ (w.drew.setRow R (ec ⟨2,[],n,m⟩))):
 Code.wp Tryz.prog (rg Tryz.f338 5) Q ⟨(x0::x1::.pointer (some ⟨R,0,none⟩)::.pointer (some ⟨Y,0,none⟩)::x4::x5::x6::x7::x8::x9::x10::x11::x12::x13::x14::x15::x16::x17::x18::x19::x20::x21::x22::x23::x24::x25::x26::x27::x28::x29::x30::x31::x32::x33::x34::x35::x36::x37::x38::x39::x40::x41::x42::x43::x44::x45::x46::x47::x48::x49::r).toArray,[]⟩ w:=by
 have HQ:=hid hQ;clear hQ;have HU0:=hid (below_drew (Below.refl w.heap.size w));have hb:=built34i n m;have hRh:=hid hR;have HS2:=hid (show(w.drew.setRow R (ec ⟨2,[],n,m⟩)).cell? ⟨Y,3,none⟩=some (.slice (some ⟨b2,o2,none⟩) 2 c2)∧(w.drew.setRow R (ec ⟨2,[],n,m⟩)).cell? ⟨b2,o2+1,none⟩=some (.int .u64 n)∧(w.drew.setRow R (ec ⟨2,[],n,m⟩)).cell? ⟨b2,o2+5+1,none⟩=some (.int .u64 m)from⟨(upd_setRow w.drew R _).cell (show w.drew.cell? _=_ from y3) hYR,(upd_setRow w.drew R _).cell (show w.drew.cell? _=_ from q3) hbR,(upd_setRow w.drew R _).cell (show w.drew.cell? _=_ from q4) hbR⟩);clear hR;conv=>arg 2;whnf
 refine wp_region_T (S:=fun w'=>w'.cell? ⟨Y,3,none⟩=some (.slice (some ⟨b2,o2,none⟩) 2 c2)∧w'.cell? ⟨b2,o2+1,none⟩=some (.int .u64 n)∧w'.cell? ⟨b2,o2+5+1,none⟩=some (.int .u64 m)) (fun _=>false) (by kernel_rfl) ⟨y3,q3,q4⟩ (fun hHeld=>?_);refine t2 0 ?_;refine t2 1 ?_;refine t2 2 ?_;refine t2 3 ?_;refine t2 4 ?_;refine t2 5 ?_;refine t2 6 ?_;refine t2 7 ?_;refine t2 8 ?_;refine t2 9 ?_;refine t2 10 ?_;refine rd1 11 rfl fun K hK=>?_;refine wp_store_row 34 (.tmp 2) (.tmp 49) rfl R (ec ⟨2,[],n,m⟩) rfl rfl 34 _ (show At w.drew R _ from hRh.out) (size34 rfl) rfl (ec_one _) ?_;refine hK.out _ _ (fun _=>HS2.out) (fun hHeld=>?_);clear hK K;try simp only[Act.put,fr]
 exact dN (HQ.out _ _ _ _ _ _ _ _ _ _ _)
theorem eread_ipn (n m:Nat)(cs:Array Value)(w:World)(hi:IsI w cs (eitm ⟨2,[],n,m⟩)):
 Rv 338 #[.agg cs] w (.agg (ec ⟨2,[],n,m⟩)):=by
 obtain⟨b,o,c,b2,o2,c2,rfl,hc,hc2,r1,r2,r3,r4⟩:=eitm_inv hi;have hc0:(2:Int)≤(c:Int):=by omega
 have hc20:(2:Int)≤(c2:Int):=by omega
 have R1:=hid r1;have R2:=hid r2;have R3:=hid r3;have R4:=hid r4;clear hc hc2 r1 r2 r3 r4 hi;have hz34:=zero34;have hz93:=zero93;obtain⟨w1,HE,U0,X',R'⟩:=mH2 w (ic 4 0 [] (.slice (some ⟨b,o,none⟩) 2 c) false) 93 (ec eZ) 34;go_enter Tryz.func338,Tryz.ntmps338;go_upto_region 1 with(fail);rw[←HE.out];clear HE;obtain⟨x0,x1,x2,x3,x4⟩:=five X'.out;have q1:=range_keep U0.out R1.out (range_lt R1.out (by simp[ic]));have q2:=range_keep U0.out R2.out (range_lt R2.out (by simp[ic]));have q10:w1.cell? ⟨b,o,none⟩=some (.int .i64 0):=q1 0 _ rfl;have q11:w1.cell? ⟨b,o+1,none⟩=some (.int .u64 2):=q1 1 _ rfl;go_upto_region 3 with(fail);clear x0 x1 x2 x4 q1;have HWR:=hid (R'.out.lt);go_upto_region 4 with(first|(refine sV 93 3 25 (ic 4 0 [] (.slice (some ⟨b2,o2,none⟩) 2 c2) false) (size93 rfl) (ic_one ..) ?_;intro w_1 hb hk)|refine lM 93 24 b (o+5) (ic 4 0 [] (.slice (some ⟨b2,o2,none⟩) 2 c2) false) q2 Tryz.underlying93 i93 ?_);replace X':=hid (X'.out.kp hb);replace R':=hid (R'.out.kp hb);have U':=tR U0 hb;clear U0;have Y':=hid hk;clear hb hk;obtain⟨_,_,_,x3,_⟩:=five X'.out;obtain⟨_,_,_,y3,_⟩:=five Y'.out;have q11:w_1.cell? ⟨b,o+1,none⟩=some (.int .u64 2):=(range_keep U'.out R1.out (range_lt R1.out (by simp[ic]))) 1 _ rfl;have q31:w_1.cell? ⟨b2,o2+1,none⟩=some (.int .u64 n):=(range_keep U'.out R3.out (range_lt R3.out (by simp[ic]))) 1 _ rfl;have q41:w_1.cell? ⟨b2,o2+5+1,none⟩=some (.int .u64 m):=(range_keep U'.out R4.out (range_lt R4.out (by simp[ic]))) 1 _ rfl;go_upto_region 5 with(fail);refine ent (C:=rg Tryz.f338 5) (by kernel_rfl) ?_;refine eread_r (w1.heap.size) (w.heap.size+1) b2 o2 n m c2 _ _ hc20 (by have:=HWR.out;omega) (by have h1:=range_lt R3.out (by simp[ic]);omega) y3 q31 q41 R'.out ?_;intro y39 y40 y41 y42 y43 y44 y45 y46 y47 y48 y49;go_wp2_with fail;have hu9:=upd_setRow w_1.drew (w.heap.size+1) (ec ⟨2,[],n,m⟩);have hb9:=hu9.below (B:=w.heap.size) (U'.out).size (fun k e=>by rw[e];omega);exact bodyPost_ret (rQ ((show At w_1.drew _ _ from R'.out).row _)) rfl ⟨rfl,(below_drew U'.out).trans hb9⟩
theorem eread_none (cs:Array Value)(w:World)(hi:IsI w cs (eitm eNone)):
 Rv 338 #[.agg cs] w (.agg (ec eNone)):=by
 obtain⟨b,o,c,rfl,hc,r1,r2⟩:=eitm_invN hi;have hc0:(2:Int)≤(c:Int):=by omega
 have R1:=hid r1;have R2:=hid r2;clear hc r1 r2 hi;have hz34:=zero34;have hz93:=zero93;obtain⟨w1,HE,U0,X',R'⟩:=mH2 w (ic 4 0 [] (.slice (some ⟨b,o,none⟩) 2 c) false) 93 (ec eZ) 34;go_enter Tryz.func338,Tryz.ntmps338;go_upto_region 1 with(fail);rw[←HE.out];clear HE;obtain⟨x0,x1,x2,x3,x4⟩:=five X'.out;have q1:=range_keep U0.out R1.out (range_lt R1.out (by simp[ic]));have q2:=range_keep U0.out R2.out (range_lt R2.out (by simp[ic]));have q10:w1.cell? ⟨b,o,none⟩=some (.int .i64 0):=q1 0 _ rfl;go_upto_region 3 with(fail);clear x0 x1 x2 x4 q1;go_upto_region 4 with(first|(refine sV 93 3 25 (ic 0 0 [] nS false) (size93 rfl) (ic_one ..) ?_;intro w_1 hb hk)|refine lM 93 24 b (o+5) (ic 0 0 [] nS false) q2 Tryz.underlying93 i93 ?_);replace X':=hid (X'.out.kp hb);replace R':=hid (R'.out.kp hb);have U':=tR U0 hb;clear U0;have Y':=hid hk;clear hb hk;obtain⟨_,_,_,x3,_⟩:=five X'.out;obtain⟨y0,_,_,y3,_⟩:=five Y'.out;have q11:w_1.cell? ⟨b,o+1,none⟩=some (.int .u64 1):=(range_keep U'.out R1.out (range_lt R1.out (by simp[ic]))) 1 _ rfl;go_wp2_with fail;refine(none_any w_1).mono ?_;rintro e w_6 ⟨rfl,hb⟩;replace X':=hid (X'.out.kp hb);replace R':=hid (R'.out.kp hb);replace Y':=hid (Y'.out.kp hb);replace U':=tR U' hb;clear hb;clear x3 y0 y3 q11 q2 q10;go_wp2_with (refine sR 34 2 65 (w.heap.size+1) (ec eNone) R'.out (size34 rfl) (ec_one _) ?_);have hu9:=upd_setRow w_6 (w.heap.size+1) (ec eNone);have hb9:=hu9.below (U'.out).size (fun k e=>by rw[e];first|exact Nat.le_refl _|omega);exact bodyPost_ret (rQ ((R'.out).row _)) rfl ⟨rfl,(U'.out).trans (hb9.mono (Nat.le_refl _))⟩
theorem eread_any (e:Eid)(h:e.ok)(cs:Array Value)(w:World)(hi:IsI w cs (eitm e)):Rv 338 #[.agg cs] w (.agg (ec e)):=by
 rcases h with h|rfl
 · obtain⟨n,m,rfl,hn,hm⟩:=ipn_form h;exact eread_ipn n m cs w hi
 · exact eread_none cs w hi
theorem eitem_any (e:Eid)(h:e.ok)(w:World):Calls Tryz.prog 202 #[.agg (ec e)] w fun o w'=>∃h:Nat,o= .returned (.tuple #[.agg (ic 4 0 [] (.slice (some ⟨h,0,none⟩) 2 2) false),.int .i64 0])∧Below w.heap.size w w'∧Keeps w.heap.size w'.heap.size w' fun w2=>IsI w2 (ic 4 0 [] (.slice (some ⟨h,0,none⟩) 2 2) false) (eitm e):=by
 rcases h with h|rfl
 · obtain⟨n,m,rfl,hn,hm⟩:=ipn_form h;exact eitem_ipn n m w hn hm
 · exact eitem_none w
theorem eof_any (e:Eid)(h:e.ok)(cs:Array Value)(w:World)(hi:IsI w cs (eitm e)):
 Rv 258 #[.agg cs] w (.tuple #[.agg (ec e),.int .i64 0]):=by
 have HI:=hid hi;have HK:=hid h;obtain⟨k,n,t,a,c,m,o,hq⟩:=hi.form;rw[hq]at HI ⊢;clear hi h hq;have hz34:=zero34;have hz93:=zero93;obtain⟨w1,HE,U0,X',R'⟩:=mH2 w (ic k n t (.slice a c m) o) 93 (ec eZ) 34;go_enter Tryz.func258,Tryz.ntmps258;go_upto_region 1 with(fail);rw[←HE.out];clear HE;go_wp2_with (refine lQ 93 1 X'.out ?_);refine(eread_any e HK.out _ _ (IsI.kp HI.out U0.out)).mono ?_;rintro e w_1 ⟨rfl,hb⟩;replace X':=hid (X'.out.kp hb);replace R':=hid (R'.out.kp hb);have U':=tR U0 hb;clear U0;clear hb;go_upto_region 2 with(refine sV 34 4 8 (ec e) (size34 rfl) (ec_one _) ?_;intro w_5 hb hk);replace X':=hid (X'.out.kp hb);replace R':=hid (R'.out.kp hb);replace U':=tR U' hb;have T':=hid hk;clear hb hk;go_wp2_with (refine lQ 34 4 T'.out ?_);refine(eitem_any e HK.out w_5).mono ?_;rintro e w_10 ⟨g,rfl,hb,hk⟩;replace X':=hid (X'.out.kp hb);replace R':=hid (R'.out.kp hb);replace T':=hid (T'.out.kp hb);replace U':=tR U' hb;have D':=hid (hk.here);clear hb hk;go_upto_region 3 with(refine sV 93 5 12 (ic 4 0 [] (.slice (some ⟨g,0,none⟩) 2 2) false) (size93 rfl) (ic_one ..) ?_;intro w_16 hb hk);replace X':=hid (X'.out.kp hb);replace R':=hid (R'.out.kp hb);replace T':=hid (T'.out.kp hb);replace D':=hid (D'.out.kp hb);replace U':=tR U' hb;have Y':=hid hk;clear hb hk;obtain⟨x0,x1,x2,x3,x4⟩:=five X'.out;obtain⟨y0,y1,y2,y3,y4⟩:=five Y'.out;go_wp2_with fail;refine(Same_any (eitm e) _ _ _ (IsI.kp HI.out U'.out) D'.out (eitm_wf HK.out) (Nat.le_trans (eitm_deep e) (by decide))).mono ?_;rintro e w_23 ⟨rfl,hb⟩;replace X':=hid (X'.out.kp hb);replace R':=hid (R'.out.kp hb);replace T':=hid (T'.out.kp hb);replace D':=hid (D'.out.kp hb);replace Y':=hid (Y'.out.kp hb);replace U':=tR U' hb;clear hb;clear x0 x1 x2 x3 x4 y0 y1 y2 y3 y4;go_wp2_with (first|refine sR 34 2 23 (w.heap.size+1) (ec e) R'.out (size34 rfl) (ec_one _) ?_|refine lQ 34 4 T'.out ?_);have hu9:=upd_setRow w_23 (w.heap.size+1) (ec e);have hb9:=hu9.below (U'.out).size (fun k e=>by rw[e];first|exact Nat.le_refl _|omega);exact bodyPost_ret (rU ((R'.out).row _)) rfl ⟨rfl,(U'.out).trans (hb9.mono (Nat.le_refl _))⟩
end
end Go.Proofs.YtlhlmflacdeafaaGreatDoor
