/- Texts of one proof, merged: . -/
import Derived.Test.YthcpccddcgbanaaGreatDoorPiYD
