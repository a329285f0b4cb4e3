/- Parts of a proof. No condition. -/
import Derived.Test.YtimlcnhcjndijaaGreatDoorG21
import Derived.Test.YtimlcnhcjndijaaGreatDoorG26
set_option linter.all false
set_option maxRecDepth 100000
set_option maxHeartbeats 1600000
namespace Go.Proofs.YtimlcnhcjndijaaGreatDoor
open Option renaming none->I
section
open Go.RowKit Go.Maps Go.Lib
def F8 (vs:List ax) (j:Jb):Pl.Ask:=⟨j.id,I,0,0,C6 vs j.sp.part,j.sp.nodes,j.sp.df,j.sp.wall+8,j.start,I,0,0,j.ak⟩
def M0 (h:List Int×V4×Int):Pl.Ax:=⟨I,0,0,h.1,h.2.1,h.2.2⟩
def Fc (vs:List ax) (js:List Jb):List Pl.Ask:=(Lj (Ea vs ByteArray.empty) (Dx js) (Bx js)).map λi=>F8 vs (F5 js (A7 (Bx js) i).id)
open Classical in
noncomputable def Oz (bh:List V4) (now:Int) (bs:List Bool) (hs:List Pl.Ax) (asks:List Pl.Ask):List (Int×Int×List Int):=
 if h:∃slots,Pl.Ly bh now bs hs asks slots then h.choose.map Pl.A2.key else[]
def Akq {d:List V4} {c:Int} {e:List Bool} {f:List Pl.Ax} {b:List Pl.Ask} {a:List Pl.A2} (h:Pl.Ly d c e (f) b a):Oz d c e (f.map Pl.Ax.er) (b.map Pl.Ask.er)=a.map Pl.A2.key:=by
 have g:=Pl.Akp h;have i:∃a,Pl.Ly d c e (f.map Pl.Ax.er) (b.map Pl.Ask.er) a:=⟨_,g⟩;unfold Oz;rw[Mb i,Pl.Awv i.choose_spec g];simp[Pl.A2.key,Pl.A2.er,Ip]
def Awz {d:List V4} {b r:Int} {e:List Bool} {f:List Pl.Ax} (a:List Pl.Ask) (h:Pl.Jn d e.length b f r []) (j:r≠0):Oz d b e (f.map Pl.Ax.er) a=[]:=by
 unfold Oz;rw[dif_neg];rintro⟨c,i⟩;obtain⟨k,l,m,st,rd,g,_⟩:=i.go;exact j (Pl.Awo (Pl.Ac9 h) g)
def Dd (tick:Int) (js:List Jb):List Jb:=Ia (js.map (I0 tick))
noncomputable def Kv (vs:List ax) (tick:Int) (bs:List Bool) (js:List Jb):List (Int×Int×List Int):=Oz (vs.map ax.cap) tick bs ((Ie js).map M0) (Fc vs js)
noncomputable def P5 (vs:List ax) (tick:Int) (bs:List Bool) (js:List Jb):List Jb:=Jl tick (Kv vs tick bs js) (js.map I1)
noncomputable def Tr (vs:List ax) (t:du) (tick:Int):du:={ t with tick:=tick,ab:=P5 vs tick (vj { t with tick:=tick }) (Dd tick t.ab) }
