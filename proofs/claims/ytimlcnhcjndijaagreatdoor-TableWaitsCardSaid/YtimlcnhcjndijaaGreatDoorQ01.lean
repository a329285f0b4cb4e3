/- Parts Base, Vec, Nam, Vex, PlVecb. Plain theorems: no condition. -/
import Derived.Test.YtimlcnhcjndijaaGreatDoorProg
import Derived.WalkLawsBesides
import Derived.WalkSpells
import Derived.Lib.Hide
import Derived.BigQuiet
set_option linter.all false
set_option maxRecDepth 100000
set_option maxHeartbeats 1600000
namespace Go.Proofs.YtimlcnhcjndijaaGreatDoor
open Go.RowKit
def Hh{p:Prop}(h:p):Go.RowKit.Hid p:=h
def Ln{n:Nat}:n<=n:=Nat.le_refl _
def Ex{α:Sort _}(a:α):∃ x,x=a:=⟨_,rfl⟩
def Bn{w:World}{o:Obj}:Below w.heap.size w (w.alloc o):=(Below.refl _ _).alloc Ln _
abbrev Jz:Array Value:=#[.int .i64 0,.string ⟨#[]⟩,.string ⟨#[]⟩,.int .i64 0,.int .i64 0,.int .i64 0,.int .i64 0,.int .i64 0,.int .i64 0,.int .i64 0,.int .i64 0,.int .i64 0,.bool false,.slice none 0 0,.int .i64 0,.int .i64 0,.int .i64 0,.bool false,.bool false,.int .i64 0,.slice none 0 0,.slice none 0 0]
def H2{pa pb:Prop}(a:pa)(b:pb):Go.RowKit.Hid pa/\Go.RowKit.Hid pb:=⟨a,b⟩
def H3{pa pb pc:Prop}(a:pa)(b:pb)(c:pc):Go.RowKit.Hid pa/\Go.RowKit.Hid pb/\Go.RowKit.Hid pc:=⟨a,b,c⟩
def H4{pa pb pc pd:Prop}(a:pa)(b:pb)(c:pc)(d:pd):Go.RowKit.Hid pa/\Go.RowKit.Hid pb/\Go.RowKit.Hid pc/\Go.RowKit.Hid pd:=⟨a,b,c,d⟩
def H5{pa pb pc pd pe:Prop}(a:pa)(b:pb)(c:pc)(d:pd)(e:pe):Go.RowKit.Hid pa/\Go.RowKit.Hid pb/\Go.RowKit.Hid pc/\Go.RowKit.Hid pd/\Go.RowKit.Hid pe:=⟨a,b,c,d,e⟩
def H6{pa pb pc pd pe pf:Prop}(a:pa)(b:pb)(c:pc)(d:pd)(e:pe)(f:pf):Go.RowKit.Hid pa/\Go.RowKit.Hid pb/\Go.RowKit.Hid pc/\Go.RowKit.Hid pd/\Go.RowKit.Hid pe/\Go.RowKit.Hid pf:=⟨a,b,c,d,e,f⟩
def H7{pa pb pc pd pe pf pg:Prop}(a:pa)(b:pb)(c:pc)(d:pd)(e:pe)(f:pf)(g:pg):Go.RowKit.Hid pa/\Go.RowKit.Hid pb/\Go.RowKit.Hid pc/\Go.RowKit.Hid pd/\Go.RowKit.Hid pe/\Go.RowKit.Hid pf/\Go.RowKit.Hid pg:=⟨a,b,c,d,e,f,g⟩
def H8{pa pb pc pd pe pf pg ph:Prop}(a:pa)(b:pb)(c:pc)(d:pd)(e:pe)(f:pf)(g:pg)(h:ph):Go.RowKit.Hid pa/\Go.RowKit.Hid pb/\Go.RowKit.Hid pc/\Go.RowKit.Hid pd/\Go.RowKit.Hid pe/\Go.RowKit.Hid pf/\Go.RowKit.Hid pg/\Go.RowKit.Hid ph:=⟨a,b,c,d,e,f,g,h⟩
def Am:=@List.getElem?_eq_getElem
def Aj:=@List.mem_of_getElem?
def Ac:=@if_neg
def Aq:=@List.getElem?_eq_some_iff
def Ad:=@if_pos
def Ao:=@bodyPost_ret
def Aw:=@decide_eq_false
def Ax:=@List.length_map
def Ca:=@congrArg
def Bg:=@beq_eq_false_iff_ne
def Az:=@decide_eq_true
def Bp:=@World.cell?_of_block
def Av:=@Nat.zero_le
def Br:=@Nat.lt_of_lt_of_le
def Bx:=@List.getElem?_map
def A6:=@Nat.le_trans
def Da:=@Tryz.underlying3
def Cd:=@Below.heap_setCell
def Dn:=@List.take_of_length_le
def Bd:=@List.mem_map
def Dr:=@List.getElem?_of_mem
def De:=@List.length_append
def D1:=@List.mem_cons_of_mem
def Do:=@List.getElem?_set
def Fv:=@List.getElem?_append_left
def Df:=@wpList_store_row
def Cn:=@Below.setCell
def Fw:=@List.length_eq_zero_iff
def Dg:=@List.length_set
def Gq:=@Tryz.underlying9
def G5:=@List.getElem?_append_right
def Ee:=@List.ext_getElem?
def Ds:=@List.map_append
def Dt:=@List.mem_append
def Fe:=@List.getElem?_modify
def E2:=@List.mem_cons_self
def Il:=@Classical.byContradiction
def Eo:=@Bool.and_eq_true
def Gr:=@World.ownsRow.cellAt
def Db:=@Int.le_refl
def Du:=@List.map_map
def C0:=@info_parts
def Ff:=@List.length_take
def D2:=@Nat.zero_add
def Dp:=@setRow_heap
def By:=@trivial
def Mr:=@Array.getElem?_setIfInBounds
def Ea:=@Nat.le_succ
def Gs:=@Below.heap_alloc
def Xo:=@Tryz.underlying4
def Nm:=@Tryz.underlying31
def G6:=@Function.comp_def
def G7:=@List.length_drop
def I7:=@List.mem_singleton
def I8:=@Bool.eq_false_iff
def Gt:=@IntWalk.i64_in
def I9:=@of_decide_eq_true
def Ja:=@decide_eq_true_eq
def Lo:=@List.getElem?_toArray
def Ks:=@List.mem_map_of_mem
def Kt:=@Calls.quiet_of_same
def G8:=@DataW.trod_int
def Gu:=@List.mem_cons
def Jw:=@Int.toNat_natCast
def Az8:=@Tryz.zeroValue4
def Jy:=@List.length_cons
def Ku:=@List.append_assoc
def Oj:=@List.pairwise_iff_getElem
def Fg:=@bne_iff_ne
def Lp:=@List.length_modify
def Lq:=@List.getElem?_take
def Lr:=@Tryz.underlying361
def J0:=@Option.some.inj
def J1:=@Option.map_some
def Kv:=@List.any_eq_true
def Nn:=@List.length_filter_le
def Az9:=@Tryz.zeroValue3
def A0a:=@Tryz.underlying0
def Ok:=@World.frozen?_of_block
def Ls:=@List.getElem_mem
def Pk:=@Array.getElem?_eq_getElem
def Ms:=@List.foldl_append
def J2:=@List.map_cons
def A0b:=@Tryz.sizeOf4
def A0c:=@Tryz.zeroValue0
def Lu:=@Exit.noGoto_ret
def Mt:=@World.size_alloc
def A0d:=@Tryz.sizeOf3
def A0e:=@Tryz.isAgg4
def Jc:=@rounds_succ
def Pm:=@Option.map_eq_some_iff
def Lv:=@Tryz.results99
def No:=@World.ownsRow_nil
def Np:=@Tryz.underlying46
def Mu:=@Nat.min_eq_left
def Ol:=@List.getElem?_drop
def Kw:=@Nat.succ_pos
def Om:=@List.filter_append
def Q3:=@List.eq_of_mem_replicate
def A0f:=@Tryz.isAgg3
def Mv:=@run_underlying
def Aa8:=@Tryz.underlying67
def A0g:=@Tryz.zeroValue9
def Nq:=@Tryz.results160
def Pn:=@List.length_take_le
def A0h:=@Tryz.sizeOf0
def Kx:=@Nat.add_mul
def Lw:=@Tryz.ntmps31
def Sr:=@Array.getElem?_eq_some_iff
def On:=@List.take_length
def Q4:=@List.getElem?_eq_none
def Nr:=@wp_loop_rounds
def Po:=@List.pairwise_cons
def A0i:=@Tryz.isAgg0
def Lx:=@Tryz.func31
def Mw:=@List.map_set
def Q5:=@List.mem_iff_getElem
def Oo:=@List.mem_filter
def Q6:=@wpList_append_own_at
def Ss:=@List.mergeSort_singleton
def Ns:=@Tryz.ntmps160
def Su:=@World.block_lt_of_cell?
def A0j:=@Tryz.zeroValue31
def Pp:=@List.cons_append
def Oq:=@Nat.mul_le_mul
def A0k:=@Tryz.sizeOf9
def A0l:=@Tryz.underlying230
def Q7:=@Nat.lt_or_gt_of_ne
def Nt:=@Nat.add_zero
def Nu:=@Tryz.func160
def Q8:=@List.find?_eq_none
def Q9:=@of_decide_eq_false
def Sv:=@Array.getElem?_modify
def Pq:=@Nat.not_lt_zero
def Pr:=@List.length_nil
def Ps:=@List.append_nil
def Pt:=@Bool.eq_iff_iff
def Sw:=@List.take_append_drop
def Ut:=@Array.getElem?_append_left
def A0m:=@Tryz.zeroValue230
def Ra:=@List.take_add_one
def Rb:=@wpList_append_own
def Rc:=@List.nodup_append
def Uu:=@List.mem_or_eq_of_mem_set
def My:=@beq_iff_eq
def Sx:=@List.pairwise_append
def A0n:=@Tryz.isAgg9
def Xp:=@List.findIdx?_eq_some_iff_getElem
def A0o:=@Tryz.zeroValue67
def Uv:=@WideMaps.keyOf_string_mk
def Or:=@callsIn_wide
def Rd:=@World.ownsRow.lt
def Re:=@List.all_eq_true
def A0p:=@Tryz.sizeOf31
def Pu:=@Prod.mk.injEq
def Rf:=@List.nil_append
def Rg:=@Tryz.results100
def Sy:=@List.mem_mergeSort
def Nv:=@Tryz.func3
def Sz:=@Tryz.underlying52
def S1:=@List.flatMap_cons
def A0q:=@Tryz.sizeOf230
def A0r:=@Tryz.isAgg31
def Ky:=@if_true
def Uw:=@List.modify_succ_cons
def Ux:=@List.countP_le_length
def Uy:=@List.length_mergeSort
def Pv:=@List.set_set
def A0s:=@Tryz.isAgg230
def A0t:=@Tryz.sizeOf67
def Rh:=@Tryz.ntmps100
def Xq:=@List.getD_eq_getElem?_getD
def Pw:=@Tryz.ntmps3
def S2:=@List.find?_some
def A0u:=@Tryz.underlying286
def A0v:=@Tryz.isAgg67
def Ri:=@Tryz.func100
def Uz:=@Tryz.underlying364
def U0:=@List.mem_replicate
def Xr:=@Tryz.underlying328
def Rj:=@Tryz.ntmps16
def S4:=@Tryz.results41
def S5:=@List.Perm.refl
structure V4 where
 a:Int
 b:Int
 c:Int
 d:Int
deriving DecidableEq
def V4.get (v:V4):Nat->Int
 | 0=>v.a
 | 1=>v.b
 | 2=>v.c
 | _=>v.d
abbrev V4.cells (v:V4):Array Value:=#[.int .i64 v.a,.int .i64 v.b,.int .i64 v.c,.int .i64 v.d]
abbrev V4.val (v:V4):Value:=.agg #[.int .i64 v.a,.int .i64 v.b,.int .i64 v.c,.int .i64 v.d]
def se {i:Nat} (h:i<4):i=0\/i=1\/i=2\/i=3:=by omega
def Ag {B:Nat} {w w':World} (h:Below B w w') {b o:Nat} (a:b<B):w'.cell? ⟨b,o,none⟩=w.cell? ⟨b,o,none⟩:=h.cell (p:=⟨b,o,none⟩) a
section
variable {w w':World} {b b' o B:Nat} {c:Array Value} {T:TypeId} {fr:Nat×Nat} {x y:Obj} {v:Value}
def Aa (h:w.heap[b]?=some (.cells c T fr)) (o:Nat):w.cell? ⟨b,o,none⟩=c[o]?:=by simp [World.cell?,h]
def Ah (h:w.heap[b]?=some (.cells c T (0,0))) (o:Nat):w.frozen? ⟨b,o,none⟩=false:=by simp [World.frozen?,h]
def Al (h:w.heap[b]?=some (.cells c T fr)) (o:Nat) (v:Value):(w.setCell ⟨b,o,none⟩ v).heap[b]?=some (.cells (c.setIfInBounds o v) T fr):=by
 simp [World.setCell,Sv,h]
def Dh (a:b≠b') (v:Value) (h:w.heap[b]?=some x):(w.setCell ⟨b',o,none⟩ v).heap[b]?=some x:=by
 rw [Cd _ _ _ _ a];exact h
def Ab (h:w.heap[b]?=some x):b<w.heap.size:=(Sr.1 h).1
def Af (w:World) (x:Obj):(w.alloc x).heap[w.heap.size]?=some x:=heap_alloc_new w x
def A2 (w:World) (x:Obj) (h:b=w.heap.size):(w.alloc x).heap[b]?=some x:=h▸heap_alloc_new w x
def Ai (y:Obj) (h:w.heap[b]?=some x):(w.alloc y).heap[b]?=some x:=(Gs w y b (Ab h)).trans h
def Ae (c:Below B w w') (h:w.heap[b]?=some x) (a:b<B):w'.heap[b]?=some x:=(c.block b a).trans h
def S6 (h:w.heap[b]?=some x):w.drew.heap[b]?=some x:=h
end
def S7 {P:Program} {t e:TypeId} {i:TypeInfo} (d:P.underlying t=some (.slice e)) (f:P.info? e=some i) (b a cap n:Nat) (x:Int) (g:x=n) (j:n<=a) :
  ∃ ta,(∀ w,(Instr.slice t (.slice (some ⟨b,0,none⟩) a cap) (some (.int .i64 x)) none none).run P w=.ok (.slice (some ta) (a-n) (cap-n)) w)/\(n<cap->ta=⟨b,n*i.size,none⟩):=by
 subst g
 have h1:∀ (y:Nat) (_:n<=y) c w,(Instr.sliceBound (.int .i64 (n:Int)) y c).run P w=.ok n w:=fun y h c w=>by
  simp [Instr.sliceBound,asIntOf,h]
 refine ⟨if cap=n then ⟨b,0,none⟩ else (⟨b,0,none⟩:Addr).add (n*i.size),fun w=>?_,fun h=>?_⟩
 .simp [Instr.slice,Instr.sliceBounds,Mv d,h1 a j,sizeOf,typeInfo,f]
  split<;>rfl
 .rw [Ac (by omega)];unfold Addr.add;split
  .next h=>rw [h]
  .simp
def Im {F:FuncId} {fn:Func} (h:Tryz.prog.funcs[F]?=some fn) (a:fn.name≠"runtime.NumGoroutine") (b:fn.body≠none) :
  ∀ args w,(callFunc F args).run Tryz.prog w=.ok (.enter F args) w:=by
 intro args w;simp [callFunc,go_sem,h,a,b]
def Bk{w:World}{b:Nat}{c:Array Value}{t:Nat}{z:Nat×Nat}(h:w.heap[b]?=some (.cells c t z))(i:Nat)(v:Value)(e:c[i]?=some v):w.cell? ⟨b,i,none⟩=some v:=(Aa h i).trans e
def C3{w:World}{b:Nat}{v0 v1 v2:Value}{t:Nat}{z:Nat×Nat}(h:w.heap[b]?=some (.cells #[v0,v1,v2] t z)):w.cell? ⟨b,0,none⟩=some v0/\w.cell? ⟨b,1,none⟩=some v1/\w.cell? ⟨b,2,none⟩=some v2:=by
 refine ⟨?_,?_,?_⟩<;>exact Aa h _
def C5{w:World}{b:Nat}{v0 v1 v2 v3 v4:Value}{t:Nat}{z:Nat×Nat}(h:w.heap[b]?=some (.cells #[v0,v1,v2,v3,v4] t z)):w.cell? ⟨b,0,none⟩=some v0/\w.cell? ⟨b,1,none⟩=some v1/\w.cell? ⟨b,2,none⟩=some v2/\w.cell? ⟨b,3,none⟩=some v3/\w.cell? ⟨b,4,none⟩=some v4:=by
 refine ⟨?_,?_,?_,?_,?_⟩<;>exact Aa h _
def C10{w:World}{b:Nat}{v0 v1 v2 v3 v4 v5 v6 v7 v8 v9:Value}{t:Nat}{z:Nat×Nat}(h:w.heap[b]?=some (.cells #[v0,v1,v2,v3,v4,v5,v6,v7,v8,v9] t z)):w.cell? ⟨b,0,none⟩=some v0/\w.cell? ⟨b,1,none⟩=some v1/\w.cell? ⟨b,2,none⟩=some v2/\w.cell? ⟨b,3,none⟩=some v3/\w.cell? ⟨b,4,none⟩=some v4/\w.cell? ⟨b,5,none⟩=some v5/\w.cell? ⟨b,6,none⟩=some v6/\w.cell? ⟨b,7,none⟩=some v7/\w.cell? ⟨b,8,none⟩=some v8/\w.cell? ⟨b,9,none⟩=some v9:=by
 refine ⟨?_,?_,?_,?_,?_,?_,?_,?_,?_,?_⟩<;>exact Aa h _
def C13{w:World}{b:Nat}{v0 v1 v2 v3 v4 v5 v6 v7 v8 v9 v10 v11 v12:Value}{t:Nat}{z:Nat×Nat}(h:w.heap[b]?=some (.cells #[v0,v1,v2,v3,v4,v5,v6,v7,v8,v9,v10,v11,v12] t z)):w.cell? ⟨b,0,none⟩=some v0/\w.cell? ⟨b,1,none⟩=some v1/\w.cell? ⟨b,2,none⟩=some v2/\w.cell? ⟨b,3,none⟩=some v3/\w.cell? ⟨b,4,none⟩=some v4/\w.cell? ⟨b,5,none⟩=some v5/\w.cell? ⟨b,6,none⟩=some v6/\w.cell? ⟨b,7,none⟩=some v7/\w.cell? ⟨b,8,none⟩=some v8/\w.cell? ⟨b,9,none⟩=some v9/\w.cell? ⟨b,10,none⟩=some v10/\w.cell? ⟨b,11,none⟩=some v11/\w.cell? ⟨b,12,none⟩=some v12:=by
 refine ⟨?_,?_,?_,?_,?_,?_,?_,?_,?_,?_,?_,?_,?_⟩<;>exact Aa h _
end Go.Proofs.YtimlcnhcjndijaaGreatDoor
namespace Go.Proofs.YtimlcnhcjndijaaGreatDoor
open Go.RowKit
def oj (x:Int):Bool:=decide (0<=x) && decide (x<=1073741824)
def V4.right (v:V4):Bool:=oj v.a && oj v.b && oj v.c && oj v.d
def V4.fits (u v:V4):Bool:=decide (u.a<=v.a) && decide (u.b<=v.b) && decide (u.c<=v.c) && decide (u.d<=v.d)
def Aa9 (F:FuncId) (l:Array Value) (p:Nat->Bool) (w:World)
  (hF:∀ args w,(callFunc F args).run Tryz.prog w=.ok (.enter F args) w)
  (H:∀ (i:Nat) (w1:World),i<4->Below w.heap.size w w1->Calls Tryz.prog F (#[.int .i64 i]++l) w1 fun e m=>e=.returned (.bool (p i))/\Below w.heap.size w1 m) :
  Calls Tryz.prog 109 #[.func (.func F) #[] l] w fun e w'=>e=.returned (.bool (p 0 && p 1 && p 2 && p 3))/\Below w.heap.size w w':=by
 have n:=Hh H;clear H;go_enter Tryz.func109,Tryz.ntmps109;go_wp2;go_loopw [3,4] (fun _ i wr=>∃ k:Nat,k<=4/\i=.int .i64 k/\Below w.heap.size w wr/\(∀ j:Nat,j<k->p j=true)) (fun _ i _=>4-(intOf i).toNat)
 case atStart=>exact ⟨0,by omega,rfl,Below.refl _ _,by omega⟩
 case round=>
  obtain ⟨k,r,rfl,g,c⟩:=hrel;have d:=Hh c;clear c;by_cases o:k<4
  .have q:(k:Int)<4:=(by omega);go_wp2_with fail;refine (n.out k _ o g).mono ?_;rintro e m ⟨rfl,f⟩;cases a:p k
   .have b:=Hh a;clear a;go_wp2;go_ret;refine ⟨?_,g.trans f⟩;have a:=b.out
    have:(p 0 && p 1 && p 2 && p 3)=false:=by rcases (show k=0\/k=1\/k=2\/k=3 by omega) with rfl | rfl | rfl | rfl<;>simp [a]
    rw [this];rfl
   .have b:=Hh a;clear a;go_wp2;go_roundw
    case rel=>
     refine ⟨k+1,by omega,by go_num,g.trans f,?_⟩;intro j s;by_cases h:j=k
     .subst h;exact b.out
     .exact d.out j (by omega)
    case measure=>simp [intOf];omega
  .have q:¬ (k:Int)<4:=(by omega);go_wp2;go_ret;refine ⟨?_,g⟩;have c:=d.out;rw [c 0 (by omega),c 1 (by omega),c 2 (by omega),c 3 (by omega)];rfl
def Ai6:∀ args w,(callFunc 208 args).run Tryz.prog w=.ok (.enter 208 args) w:=Im Tryz.func208 (by decide) (by simp [Tryz.f208])
def Ai7 (v:V4) (b:Nat) (i:Nat) (B:Nat) (w:World) (k:i<4)
  (h0:w.cell? ⟨b,0,none⟩=some (.int .i64 v.a)) (h1:w.cell? ⟨b,1,none⟩=some (.int .i64 v.b)) (m:w.cell? ⟨b,2,none⟩=some (.int .i64 v.c)) (n:w.cell? ⟨b,3,none⟩=some (.int .i64 v.d)) :
  Calls Tryz.prog 208 (#[.int .i64 i]++#[.pointer (some ⟨b,0,none⟩)]) w fun e w'=>e=.returned (.bool (oj (v.get i)))/\Below B w w':=by
 have g:∀ x:Int,x<0->oj x=false:=by intro x j;simp [oj];omega
 have f:∀ x:Int,0<=x->oj x=decide (x<=1073741824):=by intro x j;simp [oj,j]
 have l:=Hh g;have h:=Hh f;clear g f;rcases se k with rfl | rfl | rfl | rfl
 all_goals
  go_enter Tryz.func208,Tryz.ntmps208;go_wp2
  all_goals
   go_ret;refine ⟨?_,Below.refl _ _⟩;simp only [V4.get]
   first
    | (rw [l.out _ (by assumption)];rfl)
    | (rw [h.out _ (by assumption)];rfl)
def In (v:V4) (w:World) :
  Calls Tryz.prog 152 #[v.val] w fun e w'=>e=.returned (.bool v.right)/\Below w.heap.size w w':=by
 go_enter Tryz.func152,Tryz.ntmps152;go_wp2_with fail;refine (Aa9 208 _ (fun i=>oj (v.get i)) _ Ai6 ?_).mono ?_
 .intro i w1 c d;have a:∀ j,w1.cell? ⟨w.heap.size,j,none⟩=_:=fun j=>Ag (o:=j) d (by simp);exact Ai7 v w.heap.size i _ w1 c (by rw [a];simp) (by rw [a];simp) (by rw [a];simp) (by rw [a];simp)
 .rintro e f ⟨rfl,b⟩;go_wp2;go_ret;exact ⟨rfl,Bn.trans (b.mono (by simp))⟩
def Ai8:∀ args w,(callFunc 110 args).run Tryz.prog w=.ok (.enter 110 args) w:=Im Tryz.func110 (by decide) (by simp [Tryz.f110])
def Ai9 (u v:V4) (c d:Nat) (i:Nat) (B:Nat) (w:World) (f:i<4)
  (a:w.heap[c]?=some (.cells u.cells 30 (0,0))) (b:w.heap[d]?=some (.cells v.cells 30 (0,0))) :
  Calls Tryz.prog 110 (#[.int .i64 i]++#[.pointer (some ⟨c,0,none⟩),.pointer (some ⟨d,0,none⟩)]) w fun e w'=>e=.returned (.bool (decide (u.get i<=v.get i)))/\Below B w w':=by
 have g:=Aa a 0;have h:=Aa a 1;have j:=Aa a 2;have k:=Aa a 3;have l:=Aa b 0;have m:=Aa b 1;have n:=Aa b 2;have o:=Aa b 3;simp at g h j k l m n o;clear a b;rcases se f with rfl | rfl | rfl | rfl
 all_goals
  go_enter Tryz.func110,Tryz.ntmps110;go_wp2;go_quiet (fail);go_wp2;go_ret;exact ⟨rfl,⟨rfl,rfl,rfl,Nat.le_refl _,fun _ _=>rfl⟩⟩
def U1 (u v:V4) (w:World) :
  Calls Tryz.prog 65 #[u.val,v.val] w fun e w'=>e=.returned (.bool (u.fits v))/\Below w.heap.size w w':=by
 go_enter Tryz.func65,Tryz.ntmps65;go_wp2_with fail;refine (Aa9 110 _ (fun i=>decide (u.get i<=v.get i)) _ Ai8 ?_).mono ?_
 .intro i w1 c b;exact Ai9 u v w.heap.size (w.heap.size+1) i _ w1 c (Ae b (Ai _ (Af _ _)) (by simp;omega)) (Ae b (A2 _ _ (by simp)) (by simp))
 .rintro e d ⟨rfl,a⟩;go_wp2;go_ret;exact ⟨rfl,(Bn.alloc (by simp) _).trans (a.mono (by simp;omega))⟩
def V4.zero:V4:=⟨0,0,0,0⟩
def V4.told (v:V4) (e:Int):V4×Int:=if v.right=true then (v,0) else (V4.zero,e)
def Xs (v:V4) (e:Int) (w:World) :
  Calls Tryz.prog 127 #[v.val,.int .i64 e] w fun e' w'=>e'=.returned (.tuple #[(v.told e).1.val,.int .i64 (v.told e).2])/\Below w.heap.size w w':=by
 go_enter Tryz.func127,Tryz.ntmps127;go_wp2_with fail;refine (In v _).mono ?_;rintro e i ⟨rfl,a⟩;have g:=Ae a (A2 (b:=w.heap.size+1) _ _ (by simp)) (by simp);have f:=Aa g;have j:=Ah g;have d:=Ae a (Ai _ (Af _ _)) (by simp;omega);have k:=Aa d;clear g d;have h:=(Bn.alloc (by simp) _).trans (a.mono (by simp;omega));cases hr:v.right
 all_goals
  have c:=Hh hr;clear hr;go_wp2;refine Ao (v:=.tuple #[(v.told e).1.val,.int .i64 (v.told e).2]) (by simp [results,Tryz.results127,go_sem,f,V4.told,c.out,V4.zero]) rfl ⟨rfl,?_⟩;refine Cn ?_ (by simp) _;refine Cn ?_ (by simp) _;refine Cn ?_ (by simp) _;refine Cn ?_ (by simp) _;exact h
def gh (s:ByteArray) (k:Nat):Int:=((s.data.toList.getD k 0).toNat:Int)
def K0 (c:Int):Bool:=(decide (97<=c) && decide (c<=122)) || (decide (48<=c) && decide (c<=57)) || decide (c=45)
def Io (s:ByteArray):Nat->Bool
 | 0=>true
 | k+1=>Io s k && K0 (gh s k)
def C6 (s:ByteArray):Bool:=decide (1<=s.size) && decide (s.size<=16) && Io s s.size
def Aja {s:ByteArray} {k n:Nat} (h:Io s n=true) (a:k<=n):Io s k=true:=by
 induction n with
 | zero=>
  have:k=0:=by omega
  subst this;rfl
 | succ n ih=>
  simp only [Io,Eo] at h;by_cases c:k=n+1
  .subst c;simp [Io,h]
  .exact ih h.1 (by omega)
def Xt {s:ByteArray} {k:Nat} (a:k<s.size) (h:K0 (gh s k)=false):Io s s.size=false:=by
 rw [I8];intro c;have:=Aja c (show k+1<=s.size by omega);simp [Io,h] at this
def Xu {P:Program} {t:TypeId} (h:P.underlying t=some .string) (s:ByteArray) (k:Nat) (i:Int) (a:i=k) (b:k<s.size) (w:World):(Instr.index t (.string s) (.int .i64 i)).run P w=.ok (.int .u8 (gh s k)) w:=by
 subst a;rw [run_index_string w t s .i64 k h,dif_pos ⟨by omega,by omega⟩]
 have e:s[((k:Int)).toNat]'(by omega)=s.data.toList.getD k 0:=by
  have c:k<s.data.size:=b;have d:s.data.toList.getD k 0=s.data.toList[k]:=by simp only [List.getD,Array.getElem?_toList,Array.getElem_toList];rw [Pk c];rfl
  rw [d];rfl
 rw [e];rfl
def Ajb (c:Int):(K0 c=true/\((97<=c/\c<=122)\/(48<=c/\c<=57)\/c=45))\/(K0 c=false/\((c<48/\c≠45)\/(57<c/\c<97)\/122<c)):=by
 by_cases h:(97<=c/\c<=122)\/(48<=c/\c<=57)\/c=45
 .exact .inl ⟨by unfold K0;simp;omega,h⟩
 .refine .inr ⟨?_,by omega⟩;rw [I8];intro a;unfold K0 at a;simp at a;omega
def U2 (s:ByteArray) (w:World) (hs:s.size<=maxLen):Calls Tryz.prog 78 #[.string s] w fun e w'=>e=.returned (.bool (C6 s))/\Below w.heap.size w w':=by
 have q:∀ (k:Nat),k<s.size->∀ w,(Instr.index 9 (.string s) (.int .i64 (k:Int))).run Tryz.prog w=.ok (.int .u8 (gh s k)) w:=fun k hk w=>Xu Gq s k k rfl hk w;have ad:s.size<=9223372036854775807:=hs;replace q:=Hh q;go_enter Tryz.func78,Tryz.ntmps78;go_wp2;go_loopw [3,4,7] (fun _ _ i wr=>∃ k:Nat,i=.int .i64 k/\k<=s.size/\Hid (Io s k=true)/\Hid (Below w.heap.size w wr)) (fun _ _ i _=>s.size-(intOf i).toNat)
 case atStart=>exact ⟨0,rfl,Av _,rfl,Below.refl _ _⟩
 case round=>
  obtain ⟨k,rfl,hk,v,n⟩:=hrel;by_cases o:k<s.size
  .have x:(k:Int)<s.size:=(by omega);have y:=q.out k o;obtain ⟨c,l⟩:=Ex (gh s k);rw [<- l] at y;have z:=Ajb c;rcases z with ⟨a,h | h | h⟩ | ⟨a,h | h | h⟩
   .have m:decide (c<97)=false:=(by simp;omega);have p:decide (122<c)=false:=(by simp;omega);have r:decide (c<48)=false:=(by simp;omega);have t:decide (57<c)=true:=by simp;omega
    have u:(c != 45)=true:=by simp;try omega
    have b:K0 (gh s k)=true:=(by rw [<- l];exact a);replace ⟨l,a,b,h⟩:=H4 l a b h;have d:Io s (k+1)=true:=(by simp only [Io,v.out,b.out,Bool.and_self]);replace d:=Hh d;go_wp2;go_roundw
    case rel=>exact ⟨k+1,by go_num,by omega,d.out,n.out⟩
    case measure=>simp [intOf];omega
   .have m:decide (c<97)=true:=(by simp;omega);have p:decide (122<c)=false:=(by simp;omega);have r:decide (c<48)=false:=(by simp;omega);have t:decide (57<c)=false:=by simp;omega
    have u:(c != 45)=true:=by simp;try omega
    have b:K0 (gh s k)=true:=(by rw [<- l];exact a);replace ⟨l,a,b,h⟩:=H4 l a b h;have d:Io s (k+1)=true:=(by simp only [Io,v.out,b.out,Bool.and_self]);replace d:=Hh d;go_wp2;go_roundw
    case rel=>exact ⟨k+1,by go_num,by omega,d.out,n.out⟩
    case measure=>simp [intOf];omega
   .have m:decide (c<97)=true:=(by simp;omega);have p:decide (122<c)=false:=(by simp;omega);have r:decide (c<48)=true:=(by simp;omega);have t:decide (57<c)=false:=by simp;omega
    have u:(c != 45)=false:=by simp;try omega
    have b:K0 (gh s k)=true:=(by rw [<- l];exact a);replace ⟨l,a,b,h⟩:=H4 l a b h;have d:Io s (k+1)=true:=(by simp only [Io,v.out,b.out,Bool.and_self]);replace d:=Hh d;go_wp2;go_roundw
    case rel=>exact ⟨k+1,by go_num,by omega,d.out,n.out⟩
    case measure=>simp [intOf];omega
   .have m:decide (c<97)=true:=(by simp;omega);have p:decide (122<c)=false:=(by simp;omega);have r:decide (c<48)=true:=(by simp;omega);have t:decide (57<c)=false:=by simp;omega
    have u:(c != 45)=true:=by simp;try omega
    have f:K0 (gh s k)=false:=(by rw [<- l];exact a);replace ⟨l,a,f,h⟩:=H4 l a f h;have j:C6 s=false:=(by unfold C6;rw [Xt o f.out];simp);replace j:=Hh j;go_wp2;go_ret;exact ⟨by rw [j.out];rfl,n.out⟩
   .have m:decide (c<97)=true:=(by simp;omega);have p:decide (122<c)=false:=(by simp;omega);have r:decide (c<48)=false:=(by simp;omega);have t:decide (57<c)=true:=by simp;omega
    have u:(c != 45)=true:=by simp;try omega
    have f:K0 (gh s k)=false:=(by rw [<- l];exact a);replace ⟨l,a,f,h⟩:=H4 l a f h;have j:C6 s=false:=(by unfold C6;rw [Xt o f.out];simp);replace j:=Hh j;go_wp2;go_ret;exact ⟨by rw [j.out];rfl,n.out⟩
   .have m:decide (c<97)=false:=(by simp;omega);have p:decide (122<c)=true:=(by simp;omega);have r:decide (c<48)=false:=(by simp;omega);have t:decide (57<c)=true:=by simp;omega
    have u:(c != 45)=true:=by simp;try omega
    have f:K0 (gh s k)=false:=(by rw [<- l];exact a);replace ⟨l,a,f,h⟩:=H4 l a f h;have j:C6 s=false:=(by unfold C6;rw [Xt o f.out];simp);replace j:=Hh j;go_wp2;go_ret;exact ⟨by rw [j.out];rfl,n.out⟩
  .have x:¬ (k:Int)<s.size:=(by omega);have ac:k=s.size:=(by omega);subst ac
   have j:C6 s=(decide ((1:Int)<=s.size) && decide ((s.size:Int)<=16)):=by
    unfold C6;rw [v.out,Bool.and_true]
    congr 1<;>exact decide_eq_decide.2 (by omega)
   by_cases h1:(1:Int)<=s.size
   .have m:decide ((1:Int)<=s.size)=true:=(by simpa using h1);by_cases h2:(s.size:Int)<=16
    .have p:decide ((s.size:Int)<=16)=true:=(by simpa using h2);have g:C6 s=true:=(by rw [j,m,p];rfl);replace ⟨j,g⟩:=H2 j g;go_wp2;go_ret;exact ⟨by rw [g.out];rfl,n.out⟩
    .have p:decide ((s.size:Int)<=16)=false:=(by simpa using h2);have g:C6 s=false:=(by rw [j,m,p];rfl);replace ⟨j,g⟩:=H2 j g;go_wp2;go_ret;exact ⟨by rw [g.out];rfl,n.out⟩
   .have m:decide ((1:Int)<=s.size)=false:=(by simpa using h1);have g:C6 s=false:=(by rw [j,m];rfl);replace ⟨j,g⟩:=H2 j g;go_wp2;go_ret;exact ⟨by rw [g.out];rfl,n.out⟩
section
variable {w w':World} {b b' o B:Nat} {c:Array Value} {T:TypeId} {fr:Nat×Nat} {x y:Obj} {v:Value}
end
def Ann {P:Program} {t e:TypeId} {i:TypeInfo} (d:P.underlying t=some (.slice e)) (f:P.info? e=some i) (b a cap n:Nat) (x:Int) (g:x=n) (j:n<=cap) (w:World) :
  (Instr.slice t (.slice (some ⟨b,0,none⟩) a cap) none (some (.int .i64 x)) (some (.int .i64 x))).run P w=.ok (.slice (some ⟨b,0,none⟩) n n) w:=by
 subst g
 have h1:∀ (y:Nat) (_:n<=y) c,(Instr.sliceBound (.int .i64 (n:Int)) y c).run P w=.ok n w:=fun y h c=>by
  simp [Instr.sliceBound,asIntOf,h]
 simp [Instr.slice,Instr.sliceBounds,Mv d,h1 cap j,h1 n Ln,sizeOf,typeInfo,f,Addr.add]
def Y4 (F:FuncId) (y:Array Value) (p:Nat->Int) (w:World)
  (hF:∀ args w,(callFunc F args).run Tryz.prog w=.ok (.enter F args) w)
  (H:∀ (i:Nat) (w1:World),i<4->Below w.heap.size w w1->Calls Tryz.prog F (#[.int .i64 i]++y) w1 fun e z=>e=.returned (.int .i64 (p i))/\Below w1.heap.size w1 z) :
  Calls Tryz.prog 318 #[.func (.func F) #[] y] w fun e w'=>e=.returned (.agg #[.int .i64 (p 0),.int .i64 (p 1),.int .i64 (p 2),.int .i64 (p 3)])/\Below w.heap.size w w':=by
 have H':=Hh H;clear H;go_enter Tryz.func318,Tryz.ntmps318;go_wp2;go_loopw [4,5] (fun _ i wr=>∃ k:Nat,k<=4/\i=.int .i64 k/\Below w.heap.size w wr/\(∃ x,wr.heap[w.heap.size]?=some (.cells #[x,x,x,x] 30 (0,0)))/\(∃ f:Nat->Int,wr.heap[w.heap.size+1]?=some (.cells #[.int .i64 (f 0),.int .i64 (f 1),.int .i64 (f 2),.int .i64 (f 3)] 30 (0,0))/\∀ j,j<k->f j=p j)) (fun _ i _=>4-(intOf i).toNat)
 case atStart=>exact ⟨0,by omega,rfl,Bn.alloc (by simp) _,⟨_,Ai _ (Af _ _)⟩,fun _=>0,A2 _ _ (by simp),by omega⟩
 case round=>
  obtain ⟨k,hk,rfl,o,⟨x,hx⟩,f,hf,d⟩:=hrel;have m:=Hh d;clear d;have a:=Hh hx;have b:=Hh hf;clear hx hf;by_cases q:k<4
  .have hi:(k:Int)<4:=(by omega);go_wp2_with fail;refine (H'.out k _ q o).mono ?_;rintro e z ⟨rfl,c⟩;have g:=Ae c b.out (Ab b.out);have g2:=Ae c a.out (Ab a.out);have cc:=Aa g;have ff:=Ah g;have g':=Hh g;clear g;have r:=Hh g2;clear g2;have l:=c.mono (Ab b.out);have s:=o.trans (l.mono (by omega))
   obtain ⟨n,t,u⟩:∃ n:Nat->Int,Hid (∀ j,j<k+1->n j=p j)/\Hid (∀ j,n j=if j=k then p k else f j):=by
    refine ⟨fun j=>if j=k then p k else f j,fun j hj=>?_,fun _=>rfl⟩;show (if j=k then p k else f j)=p j;split
    .next h=>rw [h]
    .exact m.out j (by omega)
   rcases se q with rfl | rfl | rfl | rfl
   all_goals
    clear c l;go_wp2;go_roundw
    case rel=>
     refine ⟨_,q,by go_num,s.setCell (by simp) _,⟨x,Dh (by omega) _ r.out⟩,n,?_,t.out⟩;rw [Al g'.out];simp [u.out]
    case measure=>simp [intOf]
  .have hi:¬ (k:Int)<4:=(by omega);have d:=m.out;have cc:=Aa b.out;have cx:=Aa a.out;have fx:=Ah a.out;have p0:=d 0 (by omega);have p1:=d 1 (by omega);have p2:=d 2 (by omega);have p3:=d 3 (by omega);clear d;go_wp2;refine Ao (v:=.agg #[.int .i64 (p 0),.int .i64 (p 1),.int .i64 (p 2),.int .i64 (p 3)]) (by simp [results,Tryz.results318,go_sem,cx]) rfl ⟨rfl,?_⟩;exact (((o.setCell Ln _).setCell Ln _).setCell Ln _).setCell Ln _
def Ano:∀ args w,(callFunc 333 args).run Tryz.prog w=.ok (.enter 333 args) w:=Im Tryz.func333 (by decide) (by simp [Tryz.f333])
def Anp (u v:V4) (c d:Nat) (i:Nat) (w:World) (f:i<4)
  (a:w.heap[c]?=some (.cells u.cells 30 (0,0))) (b:w.heap[d]?=some (.cells v.cells 30 (0,0))) :
  Calls Tryz.prog 333 (#[.int .i64 i]++#[.pointer (some ⟨c,0,none⟩),.pointer (some ⟨d,0,none⟩)]) w fun e w'=>e=.returned (.int .i64 (min (u.get i) (v.get i)))/\Below w.heap.size w w':=by
 have g:=Aa a 0;have h:=Aa a 1;have j:=Aa a 2;have k:=Aa a 3;have l:=Aa b 0;have m:=Aa b 1;have n:=Aa b 2;have o:=Aa b 3;simp at g h j k l m n o;clear a b;rcases se f with rfl | rfl | rfl | rfl
 all_goals
  go_enter Tryz.func333,Tryz.ntmps333;go_wp2;go_quiet (fail);go_wp2
  all_goals
   go_ret;refine ⟨?_,⟨rfl,rfl,rfl,Nat.le_refl _,fun _ _=>rfl⟩⟩;simp [V4.get];omega
def V4.least (u v:V4):V4:=⟨min u.a v.a,min u.b v.b,min u.c v.c,min u.d v.d⟩
def Anq (u v:V4) (w:World) :
  Calls Tryz.prog 314 #[u.val,v.val] w fun e w'=>e=.returned (u.least v).val/\Below w.heap.size w w':=by
 go_enter Tryz.func314,Tryz.ntmps314;go_wp2_with fail;refine (Y4 333 _ (fun i=>min (u.get i) (v.get i)) _ Ano ?_).mono ?_
 .intro i w1 d c;exact Anp u v w.heap.size (w.heap.size+1) i w1 d (Ae c (Ai _ (Ai _ (Af _ _))) (by simp;omega)) (Ae c (Ai _ (A2 _ _ (by simp))) (by simp))
 .rintro e h ⟨rfl,a⟩;have g:=Ae a (A2 (b:=w.heap.size+2) _ _ (by simp)) (by simp);have f:=Aa g;have j:=Ah g;clear g;go_wp2;refine Ao (v:=(u.least v).val) (by simp [results,Tryz.results314,go_sem,f,V4.least,V4.get]) rfl ⟨rfl,?_⟩;refine Cn ?_ (by simp;omega) _;refine Cn ?_ (by simp;omega) _;refine Cn ?_ (by simp;omega) _;refine Cn ?_ (by simp;omega) _;exact ((Bn.alloc (by simp) _).alloc (by simp;omega) _).trans (a.mono (by simp;omega))
def Vy {v:V4} (h:v.right=true):(((0<=v.a/\v.a<=1073741824)/\(0<=v.b/\v.b<=1073741824))/\(0<=v.c/\v.c<=1073741824))/\(0<=v.d/\v.d<=1073741824):=by
 simpa [V4.right,oj] using h
def Anr:∀ args w,(callFunc 319 args).run Tryz.prog w=.ok (.enter 319 args) w:=Im Tryz.func319 (by decide) (by simp [Tryz.f319])
def Ans (u v:V4) (c d:Nat) (i:Nat) (w:World) (h:i<4) (f:u.right=true) (g:v.right=true)
  (a:w.heap[c]?=some (.cells u.cells 30 (0,0))) (b:w.heap[d]?=some (.cells v.cells 30 (0,0))) :
  Calls Tryz.prog 319 (#[.int .i64 i]++#[.pointer (some ⟨c,0,none⟩),.pointer (some ⟨d,0,none⟩)]) w fun e w'=>e=.returned (.int .i64 (u.get i-v.get i))/\Below w.heap.size w w':=by
 have j:=Aa a 0;have k:=Aa a 1;have l:=Aa a 2;have m:=Aa a 3;have n:=Aa b 0;have o:=Aa b 1;have p:=Aa b 2;have q:=Aa b 3;simp at j k l m n o p q;clear a b;obtain ⟨⟨⟨⟨_,_⟩,⟨_,_⟩⟩,⟨_,_⟩⟩,⟨_,_⟩⟩:=Vy f;obtain ⟨⟨⟨⟨_,_⟩,⟨_,_⟩⟩,⟨_,_⟩⟩,⟨_,_⟩⟩:=Vy g;clear f g;rcases se h with rfl | rfl | rfl | rfl
 all_goals
  go_enter Tryz.func319,Tryz.ntmps319;go_wp2;go_quiet (fail);go_wp2;go_ret;refine ⟨?_,⟨rfl,rfl,rfl,Nat.le_refl _,fun _ _=>rfl⟩⟩;simp [V4.get]
  done
def Ant:∀ args w,(callFunc 320 args).run Tryz.prog w=.ok (.enter 320 args) w:=Im Tryz.func320 (by decide) (by simp [Tryz.f320])
def Anu (u v:V4) (c d:Nat) (i:Nat) (w:World) (h:i<4) (f:u.right=true) (g:v.right=true)
  (a:w.heap[c]?=some (.cells u.cells 30 (0,0))) (b:w.heap[d]?=some (.cells v.cells 30 (0,0))) :
  Calls Tryz.prog 320 (#[.int .i64 i]++#[.pointer (some ⟨c,0,none⟩),.pointer (some ⟨d,0,none⟩)]) w fun e w'=>e=.returned (.int .i64 (u.get i+v.get i))/\Below w.heap.size w w':=by
 have j:=Aa a 0;have k:=Aa a 1;have l:=Aa a 2;have m:=Aa a 3;have n:=Aa b 0;have o:=Aa b 1;have p:=Aa b 2;have q:=Aa b 3;simp at j k l m n o p q;clear a b;obtain ⟨⟨⟨⟨_,_⟩,⟨_,_⟩⟩,⟨_,_⟩⟩,⟨_,_⟩⟩:=Vy f;obtain ⟨⟨⟨⟨_,_⟩,⟨_,_⟩⟩,⟨_,_⟩⟩,⟨_,_⟩⟩:=Vy g;clear f g;rcases se h with rfl | rfl | rfl | rfl
 all_goals
  go_enter Tryz.func320,Tryz.ntmps320;go_wp2;go_quiet (fail);go_wp2;go_ret;refine ⟨?_,⟨rfl,rfl,rfl,Nat.le_refl _,fun _ _=>rfl⟩⟩;simp [V4.get]
  done
end Go.Proofs.YtimlcnhcjndijaaGreatDoor
namespace Go.Proofs.YtimlcnhcjndijaaGreatDoor
open Go.RowKit
def V4.sub (u v:V4):V4×Int:=if u.right=true/\v.right=true then V4.told ⟨u.a-v.a,u.b-v.b,u.c-v.c,u.d-v.d⟩ 31 else (V4.zero,1)
def Anv (u v:V4) (w:World) :
  Calls Tryz.prog 280 #[u.val,v.val] w fun e w'=>e=.returned (.tuple #[(u.sub v).1.val,.int .i64 (u.sub v).2])/\Below w.heap.size w w':=by
 by_cases l:u.right=true/\v.right=true
 .have z:u.sub v=V4.told ⟨u.a-v.a,u.b-v.b,u.c-v.c,u.d-v.d⟩ 31:=Ad l;obtain ⟨t,x⟩:=l;have m:=Hh z;clear z;have n:=Hh t;clear t;have o:=Hh x;clear x;go_enter Tryz.func280,Tryz.ntmps280;go_wp2_with fail;refine (In u _).mono ?_;rintro e w2 ⟨rfl,f⟩;rw [n.out];have j:=((Bn.alloc (by simp) _).alloc (by simp;omega) _).trans (f.mono (by simp;omega));have gu:=Ae f (Ai _ (Ai _ (Af _ _))) (by simp;omega);have k:=Ae f (Ai _ (A2 (b:=w.heap.size+1) _ _ (by simp))) (by simp);have g:=Ae f (A2 (b:=w.heap.size+2) _ _ (by simp)) (by simp);have cv:=Aa k;have gu:=Hh gu;have k:=Hh k;have g:=Hh g;have f:=Hh f;go_wp2_with fail;refine (In v _).mono ?_;rintro e w3 ⟨rfl,h⟩;rw [o.out];have p:=j.trans (h.mono j.size);have ac:=Hh (Ae h gu.out (Ab gu.out));have ad:=Hh (Ae h k.out (Ab k.out));have y:=Hh (Ae h g.out (Ab g.out));clear cv;have h:=Hh h;go_wp2_with fail;refine (Y4 319 _ (fun i=>u.get i-v.get i) _ Anr ?_).mono ?_
  .intro i w1 hi hb;exact Ans u v w.heap.size (w.heap.size+1) i w1 hi n.out o.out (Ae hb ac.out (Ab ac.out)) (Ae hb ad.out (Ab ad.out))
  rintro e w4 ⟨rfl,q⟩;have al:=p.trans (q.mono p.size);have g4:=Hh (Ae q y.out (Ab y.out));have q:=Hh q;go_wp2_with fail;refine (Xs ⟨u.a-v.a,u.b-v.b,u.c-v.c,u.d-v.d⟩ 31 _).mono ?_;rintro e w5 ⟨rfl,s⟩;have am:=al.trans (s.mono al.size);have g5:=Ae s g4.out (Ab g4.out);have cx:=Aa g5;have fx:=Ah g5;clear g5;have s:=Hh s;rw [<- m.out];generalize l:u.sub v=r;have l:=Hh l;go_wp2;refine Ao (v:=.tuple #[r.1.val,.int .i64 r.2]) (by simp [results,Tryz.results280,go_sem,cx]) rfl ⟨by rw [l.out],?_⟩;refine Cn ?_ (by simp;omega) _;refine Cn ?_ (by simp;omega) _;refine Cn ?_ (by simp;omega) _;refine Cn ?_ (by simp;omega) _;exact am
 .have z:u.sub v=(V4.zero,1):=Ac l;have m:=Hh z;clear z;have an:=Hh l;clear l;go_enter Tryz.func280,Tryz.ntmps280;go_wp2_with fail;refine (In u _).mono ?_;rintro e w2 ⟨rfl,f⟩;have j:=((Bn.alloc (by simp) _).alloc (by simp;omega) _).trans (f.mono (by simp;omega));have k:=Ae f (Ai _ (A2 (b:=w.heap.size+1) _ _ (by simp))) (by simp);have g:=Ae f (A2 (b:=w.heap.size+2) _ _ (by simp)) (by simp);have cv:=Aa k;have f:=Hh f;cases t:u.right
  .have n:=Hh t;clear t;have cx:=Aa g;have fx:=Ah g;clear g k cv;go_wp2;refine Ao (v:=.tuple #[V4.zero.val,.int .i64 1]) (by simp [results,Tryz.results280,go_sem,cx,V4.zero]) rfl ⟨by rw [m.out],?_⟩;refine Cn ?_ (by simp;omega) _;refine Cn ?_ (by simp;omega) _;refine Cn ?_ (by simp;omega) _;refine Cn ?_ (by simp;omega) _;exact j
  .have x:v.right=false:=by
    cases x:v.right
    .rfl
    .exact absurd ⟨t,x⟩ an.out
   have n:=Hh t;clear t;have o:=Hh x;clear x;have g:=Hh g;have k:=Hh k;go_wp2_with fail;refine (In v _).mono ?_;rintro e w3 ⟨rfl,h⟩;rw [o.out];have p:=j.trans (h.mono j.size);have y:=Ae h g.out (Ab g.out);have cx:=Aa y;have fx:=Ah y;clear y cv;have h:=Hh h;go_wp2;refine Ao (v:=.tuple #[V4.zero.val,.int .i64 1]) (by simp [results,Tryz.results280,go_sem,cx,V4.zero]) rfl ⟨by rw [m.out],?_⟩;refine Cn ?_ (by simp;omega) _;refine Cn ?_ (by simp;omega) _;refine Cn ?_ (by simp;omega) _;refine Cn ?_ (by simp;omega) _;exact p
def V4.add (u v:V4):V4×Int:=if u.right=true/\v.right=true then V4.told ⟨u.a+v.a,u.b+v.b,u.c+v.c,u.d+v.d⟩ 30 else (V4.zero,1)
def Adk (u v:V4) (w:World) :
  Calls Tryz.prog 281 #[u.val,v.val] w fun e w'=>e=.returned (.tuple #[(u.add v).1.val,.int .i64 (u.add v).2])/\Below w.heap.size w w':=by
 by_cases l:u.right=true/\v.right=true
 .have z:u.add v=V4.told ⟨u.a+v.a,u.b+v.b,u.c+v.c,u.d+v.d⟩ 30:=Ad l;obtain ⟨t,x⟩:=l;have m:=Hh z;clear z;have n:=Hh t;clear t;have o:=Hh x;clear x;go_enter Tryz.func281,Tryz.ntmps281;go_wp2_with fail;refine (In u _).mono ?_;rintro e w2 ⟨rfl,f⟩;rw [n.out];have j:=((Bn.alloc (by simp) _).alloc (by simp;omega) _).trans (f.mono (by simp;omega));have gu:=Ae f (Ai _ (Ai _ (Af _ _))) (by simp;omega);have k:=Ae f (Ai _ (A2 (b:=w.heap.size+1) _ _ (by simp))) (by simp);have g:=Ae f (A2 (b:=w.heap.size+2) _ _ (by simp)) (by simp);have cv:=Aa k;have gu:=Hh gu;have k:=Hh k;have g:=Hh g;have f:=Hh f;go_wp2_with fail;refine (In v _).mono ?_;rintro e w3 ⟨rfl,h⟩;rw [o.out];have p:=j.trans (h.mono j.size);have ac:=Hh (Ae h gu.out (Ab gu.out));have ad:=Hh (Ae h k.out (Ab k.out));have y:=Hh (Ae h g.out (Ab g.out));clear cv;have h:=Hh h;go_wp2_with fail;refine (Y4 320 _ (fun i=>u.get i+v.get i) _ Ant ?_).mono ?_
  .intro i w1 hi hb;exact Anu u v w.heap.size (w.heap.size+1) i w1 hi n.out o.out (Ae hb ac.out (Ab ac.out)) (Ae hb ad.out (Ab ad.out))
  rintro e w4 ⟨rfl,q⟩;have al:=p.trans (q.mono p.size);have g4:=Hh (Ae q y.out (Ab y.out));have q:=Hh q;go_wp2_with fail;refine (Xs ⟨u.a+v.a,u.b+v.b,u.c+v.c,u.d+v.d⟩ 30 _).mono ?_;rintro e w5 ⟨rfl,s⟩;have am:=al.trans (s.mono al.size);have g5:=Ae s g4.out (Ab g4.out);have cx:=Aa g5;have fx:=Ah g5;clear g5;have s:=Hh s;rw [<- m.out];generalize l:u.add v=r;have l:=Hh l;go_wp2;refine Ao (v:=.tuple #[r.1.val,.int .i64 r.2]) (by simp [results,Tryz.results281,go_sem,cx]) rfl ⟨by rw [l.out],?_⟩;refine Cn ?_ (by simp;omega) _;refine Cn ?_ (by simp;omega) _;refine Cn ?_ (by simp;omega) _;refine Cn ?_ (by simp;omega) _;exact am
 .have z:u.add v=(V4.zero,1):=Ac l;have m:=Hh z;clear z;have an:=Hh l;clear l;go_enter Tryz.func281,Tryz.ntmps281;go_wp2_with fail;refine (In u _).mono ?_;rintro e w2 ⟨rfl,f⟩;have j:=((Bn.alloc (by simp) _).alloc (by simp;omega) _).trans (f.mono (by simp;omega));have k:=Ae f (Ai _ (A2 (b:=w.heap.size+1) _ _ (by simp))) (by simp);have g:=Ae f (A2 (b:=w.heap.size+2) _ _ (by simp)) (by simp);have cv:=Aa k;have f:=Hh f;cases t:u.right
  .have n:=Hh t;clear t;have cx:=Aa g;have fx:=Ah g;clear g k cv;go_wp2;refine Ao (v:=.tuple #[V4.zero.val,.int .i64 1]) (by simp [results,Tryz.results281,go_sem,cx,V4.zero]) rfl ⟨by rw [m.out],?_⟩;refine Cn ?_ (by simp;omega) _;refine Cn ?_ (by simp;omega) _;refine Cn ?_ (by simp;omega) _;refine Cn ?_ (by simp;omega) _;exact j
  .have x:v.right=false:=by
    cases x:v.right
    .rfl
    .exact absurd ⟨t,x⟩ an.out
   have n:=Hh t;clear t;have o:=Hh x;clear x;have g:=Hh g;have k:=Hh k;go_wp2_with fail;refine (In v _).mono ?_;rintro e w3 ⟨rfl,h⟩;rw [o.out];have p:=j.trans (h.mono j.size);have y:=Ae h g.out (Ab g.out);have cx:=Aa y;have fx:=Ah y;clear y cv;have h:=Hh h;go_wp2;refine Ao (v:=.tuple #[V4.zero.val,.int .i64 1]) (by simp [results,Tryz.results281,go_sem,cx,V4.zero]) rfl ⟨by rw [m.out],?_⟩;refine Cn ?_ (by simp;omega) _;refine Cn ?_ (by simp;omega) _;refine Cn ?_ (by simp;omega) _;refine Cn ?_ (by simp;omega) _;exact p
end Go.Proofs.YtimlcnhcjndijaaGreatDoor
