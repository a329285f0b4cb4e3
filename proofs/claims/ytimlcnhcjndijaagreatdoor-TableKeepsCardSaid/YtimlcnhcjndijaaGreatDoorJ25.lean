/- Parts of a proof. No condition. -/
import Derived.Test.YtimlcnhcjndijaaGreatDoorJ19
import Derived.Test.YtimlcnhcjndijaaGreatDoorJ24
set_option linter.all false
set_option maxRecDepth 100000
set_option maxHeartbeats 1600000
namespace Go.Proofs.YtimlcnhcjndijaaGreatDoor
open Option renaming none->I
section
open Go.RowKit Go.Maps Go.Lib
def Cu (vs:List ar) (j:Jb):Pl.Ask:=⟨j.id,I,0,0,B5 vs j.sp.part,j.sp.nodes,j.sp.df,j.sp.wall+8,j.start,I,0,0,j.ah⟩
def Fy (h:List Int×V4×Int):Pl.Av:=⟨I,0,0,h.1,h.2.1,h.2.2⟩
def Cj (vs:List ar) (js:List Jb):List Pl.Ask:=(Le (Ee vs ByteArray.empty) (D1 js) (Bs js)).map λi=>Cu vs (Fe js (A9 (Bs js) i).id)
open Classical in
noncomputable def Oe (az:List V4) (now:Int) (bs:List Bool) (hs:List Pl.Av) (asks:List Pl.Ask):List (Int×Int×List Int):=
 if h:∃slots,Pl.Jv az now bs hs asks slots then h.choose.map Pl.Ax.key else[]
def Ako {d:List V4} {c:Int} {bs:List Bool} {e:List Pl.Av} {b:List Pl.Ask} {a:List Pl.Ax} (h:Pl.Jv d c bs (e) b a):Oe d c bs (e.map Pl.Av.er) (b.map Pl.Ask.er)=a.map Pl.Ax.key:=by
 have f:=Pl.Akn h;have g:∃a,Pl.Jv d c bs (e.map Pl.Av.er) (b.map Pl.Ask.er) a:=⟨_,f⟩;unfold Oe;rw[dif_pos g,Pl.Axc g.choose_spec f];simp[Pl.Ax.key,Pl.Ax.er,Jk]
def Axg {d:List V4} {b r:Int} {bs:List Bool} {e:List Pl.Av} (a:List Pl.Ask) (h:Pl.I9 d bs.length b e r []) (i:r≠0):Oe d b bs (e.map Pl.Av.er) a=[]:=by
 unfold Oe;rw[dif_neg];rintro⟨c,g⟩;obtain⟨j,k,l,st,rd,f,_⟩:=g.go;exact i (Pl.Aw6 (Pl.Adb h) f)
def Ck (tick:Int) (js:List Jb):List Jb:=Gk (js.map (Et tick))
noncomputable def Fh (vs:List ar) (tick:Int) (bs:List Bool) (js:List Jb):List (Int×Int×List Int):=Oe (vs.map ar.cap) tick bs ((Ce js).map Fy) (Cj vs js)
noncomputable def Ky (vs:List ar) (tick:Int) (bs:List Bool) (js:List Jb):List Jb:=F7 tick (Fh vs tick bs js) (js.map B8)
noncomputable def Ro (vs:List ar) (t:dq) (tick:Int):dq:={ t with tick:=tick,ab:=Ky vs tick (jg { t with tick:=tick }) (Ck tick t.ab) }
